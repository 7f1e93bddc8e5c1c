/- Chapter 10, plain. -/
import Derived.Test.YtfopaakmgogpiaaGreatDoorE6
import Derived.Test.YtfopaakmgogpiaaGreatDoorW12
set_option linter.unusedVariables false
set_option linter.unusedSimpArgs false
set_option maxRecDepth 100000
set_option maxHeartbeats 4000000
open Bool renaming false→I,false_eq_true→Ek,not_true→Eo,true→Ep,not_eq_true→Gb,false_or→Gf
open Option renaming getD_some→Eh,some→Eu,isSome_some→Ev,any_some→Ge
open List renaming length_singleton→En,length_map→Ga,length_set→Gc,map_set→Gh
namespace Go.Z
open Go Go.Abs Go.W
variable {r:qc}{e:ql}
theorem WZ {a lo hi}:f59 a lo hi=Eu (decide (a<lo∨hi<a)):=by
 unfold f59
 by_cases h:a<lo
 ·simp[h]
 ·simp[h]
theorem yH {o}:decide (dH o<0)=!o.isSome:=by
 cases o with
 |none=>rfl
 |some k=>exact dF (by show ¬(k:Int)<0;omega)
theorem jy5 (b:GB r)(hk:e.kind=mf)(hc:ki e.er=0):gj (f124 r e) (apply (j6 .i64) r.er e.er):=by
 obtain⟨h1,h2⟩:=fa hk (show fR mf=Eu (2,2)from rfl) hc
 obtain⟨n0,n1,hn⟩:=gk h1
 obtain⟨v0,v1,hv⟩:=gk h2
 unfold apply n8
 rw[show e.er.kind=mf from hk,if_pos (by decide),if_pos rfl,eF hn,lQ hn,vn hv,wy]
 unfold f124
 simp only[gE hn,gi hn,gi hv,jw,EU (yb b.L),wx,WZ,Bl (yb b.L)]
 rw[show decide (e.kind=([108,111,116]:List UInt8))=Ep from dT hk,E0 (o:=Eu (r.ar.getD [])) (by have:=mG b.L;simp only[Eh,En];omega) (by simp)]
 simp only[cT]
 cases (kg r.er n0).isSome with
 |true=>exact⟨_,_,rfl,rfl,by decide⟩
 |false=>
  by_cases h1:v1<1∨10000<v1
  ·simp only[dT h1,if_pos h1]
   exact⟨_,_,rfl,rfl,by decide⟩
  ·simp only[dF h1,if_neg h1]
   by_cases h2:64≤(r.ar.getD []).length
   ·simp only[show decide (64≤((r.ar.getD []).length:Int))=Ep from dT (by omega),wy,if_pos h2,Ek,if_false]
    exact⟨_,_,rfl,rfl,by decide⟩
   ·simp only[show decide (64≤((r.ar.getD []).length:Int))=I from dF (by omega),wy,if_neg h2,Ek,if_false]
    exact⟨_,_,rfl,rfl,rfl⟩
theorem jee (b:GB r)(hk:e.kind=ng)(hc:ki e.er=0):gj (f124 r e) (apply (j6 .i64) r.er e.er):=by
 obtain⟨h1,h2⟩:=fa hk (show fR ng=Eu (1,1)from rfl) hc
 obtain⟨n0,hn⟩:=iP h1
 unfold apply n8
 rw[show e.er.kind=ng from hk,if_pos (by decide),if_neg (by decide),if_pos rfl,eF hn]
 have hl:r.er.ae.length=(r.ae.getD []).length:=by rw[yn,Ga]
 unfold f124
 simp only[gE hn,jw,EV (yb b.P),wx,Bl (yb b.P),hl]
 rw[show decide (e.kind=([108,111,116]:List UInt8))=I from dF (by rw[hk];decide),show decide (e.kind=([112,114,111,100,117,99,116]:List UInt8))=Ep from dT hk,E0 (o:=Eu (r.ae.getD [])) (by have:=mG b.P;simp only[Eh,En];omega) (by simp)]
 simp only[cT,cond_false]
 cases (kw r.er n0).isSome with
 |true=>exact⟨_,_,rfl,rfl,by decide⟩
 |false=>
  by_cases h2:16≤(r.ae.getD []).length
  ·simp only[show decide (16≤((r.ae.getD []).length:Int))=Ep from dT (by omega),if_pos h2]
   exact⟨_,_,rfl,rfl,by decide⟩
  ·simp only[show decide (16≤((r.ae.getD []).length:Int))=I from dF (by omega),if_neg h2]
   exact⟨_,_,rfl,rfl,qyo rfl⟩
theorem jof (b:GB r)(hk:e.kind=mr)(hc:ki e.er=0):gj (f124 r e) (apply (j6 .i64) r.er e.er):=by
 obtain⟨h1,h2⟩:=fa hk (show fR mr=Eu (2,1)from rfl) hc
 obtain⟨n0,n1,hn⟩:=gk h1
 unfold apply n8
 rw[show e.er.kind=mr from hk,if_pos (by decide),if_neg (by decide),if_neg (by decide),eF hn,lQ hn]
 have hl:r.er.units.length=(r.units.getD []).length:=by rw[rG,Ga]
 unfold f124
 simp only[gE hn,gi hn,jw,EV (yb b.P),Bb (yb b.U),wx,yH,Bl (yb b.U),hl]
 rw[show decide (e.kind=([108,111,116]:List UInt8))=I from dF (by rw[hk];decide),show decide (e.kind=([112,114,111,100,117,99,116]:List UInt8))=I from dF (by rw[hk];decide)]
 simp only[cond_false]
 unfold hJ
 cases hp:kw r.er n1 with
 |none=>exact⟨_,_,rfl,rfl,by decide⟩
 |some k=>
  obtain⟨p,g1,_,g3⟩:=E3 hp
  have hd:p.er.aO.isEmpty=decide (((p.aO.getD []).length:Int)=0):=by
   show((p.aO.getD []).map qt.er).isEmpty=_
   cases p.aO.getD []with
   |nil=>rfl
   |cons x l=>simp;omega
  have oJ:p.er.aO.length=(p.aO.getD []).length:=by show((p.aO.getD []).map qt.er).length=_;rw[Ga]
  simp only[Ev,Eo,cond_false,jF,zy g1,Option.bind_some,g3,hd,oJ]
  rw[E0 (o:=Eu (r.units.getD [])) (by have:=mG b.U;simp only[Eh,En];omega) (by simp)]
  cases (yg r.er n0).isSome with
  |true=>exact⟨_,_,rfl,rfl,by decide⟩
  |false=>
   cases decide (((p.aO.getD []).length:Int)=0)with
   |true=>exact⟨_,_,rfl,rfl,by decide⟩
   |false=>
    by_cases h2:256≤(r.units.getD []).length
    ·simp only[show decide (256≤((r.units.getD []).length:Int))=Ep from dT (by omega),if_pos h2]
     exact⟨_,_,rfl,rfl,by decide⟩
    ·simp only[show decide (256≤((r.units.getD []).length:Int))=I from dF (by omega),if_neg h2]
     exact⟨_,_,rfl,rfl,qw6 rfl⟩
theorem q70 (b:GB r){k x}(hk:k<(r.ar.getD []).length):f206 r (k:Int) x=Eu { r with ar:=Eu ((r.ar.getD []).set k x) }:=by
 unfold f206;rw[WK (yb b.L) hk];rfl
theorem jnr (b:GB r){k x}(hk:k<(r.ae.getD []).length):f205 r (k:Int) x=Eu { r with ae:=Eu ((r.ae.getD []).set k x) }:=by
 unfold f205;rw[WK (yb b.P) hk];rfl
theorem Bv (hb:(r.units.getD []).length≤BB){k x}(hk:k<(r.units.getD []).length):f209 r (k:Int) x=Eu { r with units:=Eu ((r.units.getD []).set k x) }:=by
 unfold f209;rw[WK (yb hb) hk];rfl
theorem vr {α:Type}{l:List α}{k x}(h:l[k]?=Eu x):k<l.length:=(List.getElem?_eq_some_iff.1 h).1
theorem jb4 (b:GB r)(hold:Bool)(hk:e.kind=if hold then nZ else rF)(hc:ki e.er=0):gj (f126 r e) (apply (j6 .i64) r.er e.er):=by
 obtain⟨h1,h2⟩:=fa (a:=1) (c:=1) hk (by cases hold<;>rfl) hc
 obtain⟨n0,hn⟩:=iP h1
 rw[jU hk (by cases hold<;>decide) (by cases hold<;>decide),if_pos (by cases hold<;>decide)]
 unfold vo
 rw[eF hn]
 unfold f126
 simp only[gE hn,jw,EU (yb b.L),yH]
 cases hp:kg r.er n0 with
 |none=>exact⟨_,_,rfl,rfl,by decide⟩
 |some k=>
  obtain⟨x,g1,_⟩:=Iy hp
  simp only[Ev,Eo,cond_false,jF,zy g1,wy,g1,q70 b (vr g1),show e.er.kind=e.kind from rfl]
  cases hold with
  |true=>
   have hk:e.kind=nZ:=hk
   rw[show decide (e.kind=([104,111,108,100]:List UInt8))=Ep from dT hk,show decide (e.kind=([102,114,101,101]:List UInt8))=I from dF (by rw[hk];decide),if_pos hk]
   by_cases hh:x.held=Ep
   ·simp only[hh,cT,if_true];exact⟨_,_,rfl,rfl,by decide⟩
   ·rw[Gb]at hh
    simp only[hh,cT,cond_false,Ek,if_false];exact⟨_,_,rfl,rfl,O3 rfl⟩
  |false=>
   have hk:e.kind=rF:=hk
   rw[show decide (e.kind=([104,111,108,100]:List UInt8))=I from dF (by rw[hk];decide),show decide (e.kind=([102,114,101,101]:List UInt8))=Ep from dT hk,if_neg (by rw[hk];decide)]
   by_cases hh:x.held=Ep
   ·simp only[hh,cT,cond_false,Eo,Ek,if_false];exact⟨_,_,rfl,rfl,O3 rfl⟩
   ·rw[Gb]at hh
    simp only[hh,cT,cond_false,Bool.not_false,if_true];exact⟨_,_,rfl,rfl,by decide⟩
theorem q5v {α:Type}{l:List α}{p x}(h:l.length≤16):16<(eS p x l).length↔(!(l.any p))=Ep∧16≤l.length:=by
 unfold eS
 rw[Bi]
 cases hi:l.findIdx? p with
 |some i=>
  simp only[Gc]
  constructor
  ·intro h2;omega
  ·rintro ⟨h2,_⟩;cases h2
 |none=>
  simp only[List.length_append,En]
  constructor
  ·intro h2;exact⟨rfl,by omega⟩
  ·rintro ⟨_,h2⟩;omega
theorem W0 (b:GB r)(w:WF r.er){kk:List UInt8}(gO:kk=mg∨kk=nh∨kk=pG)(hk:e.kind=kk)(hc:ki e.er=0)(iK:∀v∈e.values.getD [],0≤v):gj (f125 r e) (apply (j6 .i64) r.er e.er):=by
 have hR:apply (j6 .i64) r.er e.er=n9 r.er e.er:=by
  unfold apply
  rw[show e.er.kind=kk from hk,if_neg (by rcases gO with rfl|rfl|rfl<;>decide),if_pos gO]
 rw[hR]
 obtain⟨n0,t,hn⟩:∃n0 t,e.names.getD []=n0::t:=by
  rcases gO with rfl|rfl|rfl
  ·obtain⟨a,c,h⟩:=gk (fa (c:=2) hk rfl hc).1;exact⟨_,_,h⟩
  ·obtain⟨a,c,h⟩:=gk (fa (c:=3) hk rfl hc).1;exact⟨_,_,h⟩
  ·obtain⟨a,h⟩:=iP (fa (c:=1) hk rfl hc).1;exact⟨_,_,h⟩
 cases hp:kw r.er n0 with
 |none=>
  unfold n9
  rw[eF hn,hp]
  unfold f125
  simp only[gE hn,jw,EV (yb b.P),yH,hp]
  exact⟨_,_,rfl,rfl,by decide⟩
 |some k=>
 obtain⟨p,g1,_,g3⟩:=E3 hp
 have hm:=List.mem_of_getElem? g1
 have hD:=b.D p hm
 have wE:p.er∈r.er.ae:=by rw[yn];exact List.mem_map_of_mem hm
 have hkn:=w.aI _ wE
 have hkt:=w.aH _ wE
 have W1:kz (·.k) (p.dn.getD []):=hkn.1
 have W2:(p.dn.getD []).length≤16:=hkn.2
 have W3:kz (·.k) (p.dt.getD []):=hkt.1
 have W4:(p.dt.getD []).length≤16:=hkt.2
 rw[O4 (eF hn) hp g3]
 unfold f125
 simp only[gE hn,jw,EV (yb b.P),yH,hp,Ev,Eo,cond_false,jF,zy g1,jnr b (vr g1)]
 rcases gO with rfl|rfl|rfl
 ·obtain⟨h1,h2⟩:=fa (a:=2) (c:=2) hk rfl hc
  obtain⟨n0',n1,iL⟩:=gk h1
  obtain⟨v0,v1,hv⟩:=gk h2
  have h0:0≤v1:=iK v1 (by rw[hv];simp)
  obtain⟨v,ww,f1,f2⟩:=jo8 (x:=⟨n1,v1⟩) (mG hD.2.1) W1 h0
  have f2:v.getD []=jE (p.dn.getD []) n1 v1:=f2
  rw[if_pos hk,lQ iL,vn hv]
  simp only[gi hv,gi iL,f1,show decide (e.kind=([110,101,101,100]:List UInt8))=Ep from dT hk,cT]
  by_cases hz:10000<v1
  ·rw[dT hz,if_pos (Or.inr hz)];exact⟨_,_,rfl,rfl,by decide⟩
  ·rw[dF hz,if_neg (show ¬(v1<0∨10000<v1) by omega)]
   have di:({ r with ae:=Eu ((r.ae.getD []).set k ⟨p.name,v,p.dt,p.aO⟩) }:qc).er=bD r.er k { p.er with bK:={ p.er.bK with aI:=jE (p.dn.getD []) n1 v1 } }:=by
    rw[E4 rfl]
    congr 1
    simp only[qq.er,f2]
   have hlen:decide (16<((v.getD []).length:Int))=decide (16<(jE (p.dn.getD []) n1 v1).length):=by
    rw[f2]
    by_cases h:16<(jE (p.dn.getD []) n1 v1).length
    ·rw[dT h];exact dT (by omega)
    ·rw[dF h];exact dF (by omega)
   have lR:16<(jE (p.dn.getD []) n1 v1).length↔(0<v1∧(!(p.dn.getD []).any (cN n1))=Ep∧16≤(p.dn.getD []).length):=by
    unfold jE
    by_cases pC:v1=0
    ·rw[if_pos pC]
     have:=List.length_filter_le (fun x=>!cN n1 x) (p.dn.getD [])
     constructor
     ·intro h;omega
     ·rintro ⟨h,_⟩;omega
    ·rw[if_neg pC,q5v W2]
     constructor
     ·intro h;exact⟨by omega,h⟩
     ·exact fun h=>h.2
   simp only[cond_false,hlen]
   by_cases oM:16<(jE (p.dn.getD []) n1 v1).length
   ·rw[dT oM,if_pos (lR.1 oM)]
    cases ww<;>exact⟨_,_,rfl,rfl,by decide⟩
   ·rw[dF oM,if_neg (fun h=>oM (lR.2 h))]
    cases ww<;>exact⟨_,_,rfl,rfl,di⟩
 ·obtain⟨h1,h2⟩:=fa (a:=2) (c:=3) hk rfl hc
  obtain⟨n0',n1,iL⟩:=gk h1
  obtain⟨v0,v1,v2,hv⟩:=jrc h2
  obtain⟨v,ww,f1,f2⟩:=jl9 (x:=⟨n1,v1,v2⟩) (mG hD.2.2.1) W3
  have f2:v.getD []=eS (ec n1) ⟨n1,v1,v2⟩ (p.dt.getD []):=f2
  rw[if_neg (show ¬e.kind=mg by rw[hk];decide),if_pos hk,lQ iL,vn hv,vl2 hv]
  simp only[gi hv,jwj hv,gi iL,f1,show decide (e.kind=([110,101,101,100]:List UInt8))=I from dF (by rw[hk];decide),show decide (e.kind=([116,101,115,116]:List UInt8))=Ep from dT hk,cT,cond_false]
  by_cases hz:v2<v1
  ·rw[dT hz,if_pos hz];exact⟨_,_,rfl,rfl,by decide⟩
  ·rw[dF hz,if_neg hz]
   have di:({ r with ae:=Eu ((r.ae.getD []).set k ⟨p.name,p.dn,v,p.aO⟩) }:qc).er=bD r.er k { p.er with bK:={ p.er.bK with aH:=eS (ec n1) ⟨n1,v1,v2⟩ (p.dt.getD []) } }:=by
    rw[E4 rfl]
    congr 1
    simp only[qq.er,f2]
   have hlen:decide (16<((v.getD []).length:Int))=decide (16<(eS (ec n1) ⟨n1,v1,v2⟩ (p.dt.getD [])).length):=by
    rw[f2]
    by_cases h:16<(eS (ec n1) ⟨n1,v1,v2⟩ (p.dt.getD [])).length
    ·rw[dT h];exact dT (by omega)
    ·rw[dF h];exact dF (by omega)
   have lR:=q5v (p:=ec n1) (x:=(⟨n1,v1,v2⟩:qj)) W4
   simp only[cond_false,hlen]
   by_cases oM:16<(eS (ec n1) ⟨n1,v1,v2⟩ (p.dt.getD [])).length
   ·rw[dT oM,if_pos (lR.1 oM)]
    cases ww<;>exact⟨_,_,rfl,rfl,by decide⟩
   ·rw[dF oM,if_neg (fun h=>oM (lR.2 h))]
    cases ww<;>exact⟨_,_,rfl,rfl,di⟩
 ·rw[if_neg (show ¬e.kind=mg by rw[hk];decide),if_neg (show ¬e.kind=nh by rw[hk];decide)]
  simp only[show decide (e.kind=([110,101,101,100]:List UInt8))=I from dF (by rw[hk];decide),show decide (e.kind=([116,101,115,116]:List UInt8))=I from dF (by rw[hk];decide),cond_false,Bl (yb hD.1)]
  rw[E0 (o:=Eu (p.aO.getD [])) (by have:=mG hD.1;simp only[Eh,En];omega) (by simp)]
  have oJ:p.er.aO.length=(p.aO.getD []).length:=by show((p.aO.getD []).map qt.er).length=_;rw[Ga]
  have hd:(p.dn.getD []).isEmpty=decide (((p.dn.getD []).length:Int)=0):=by
   cases p.dn.getD []with
   |nil=>rfl
   |cons x l=>simp;omega
  have di:({ r with ae:=Eu ((r.ae.getD []).set k ⟨p.name,p.dn,p.dt,Eu (p.aO.getD []++[⟨p.dn,p.dt⟩])⟩) }:qc).er=bD r.er k { p.er with aO:=p.er.aO++[p.er.bK] }:=by
   rw[E4 rfl]
   congr 1
   simp only[qq.er,Eh,List.map_append,List.map_cons,List.map_nil]
   rfl
  simp only[hd,oJ]
  cases decide (((p.dn.getD []).length:Int)=0)with
  |true=>exact⟨_,_,rfl,rfl,by decide⟩
  |false=>
   by_cases h2:100≤(p.aO.getD []).length
   ·simp only[show decide (100≤((p.aO.getD []).length:Int))=Ep from dT (by omega),if_pos h2,Ek,if_false]
    exact⟨_,_,rfl,rfl,by decide⟩
   ·simp only[show decide (100≤((p.aO.getD []).length:Int))=I from dF (by omega),if_neg h2,Ek,if_false]
    exact⟨_,_,rfl,rfl,di⟩
end Go.Z
namespace Go.Z
open Go Go.Abs Go.W
variable {r:qc}{e:ql}
theorem W5 {α:Type}(p:α→Bool):∀(l:List α) (c:Bool),l.foldl (fun c x=>if c then Ep else p x) c=(c||l.any p)
 | [],c=>by simp
 |x::l,c=>by
  rw[List.foldl_cons,W5 p l,List.any_cons]
  cases c<;>simp
theorem W8 {u}(h:u.aq=I):(⟨u.name,u.product,u.version,u.uses,u.results,u.partner,I,u.aj⟩:qf)=u:=by cases u;simp only at h;rw[h]
theorem j3a (b:GB r)(w:WF r.er)(hk:e.kind=mA)(hc:ki e.er=0){k:Nat}{u n0 n1 v0 v1}(hn:e.names.getD []=[n0,n1])(hv:e.values.getD []=[v0,v1])(h1:(r.units.getD [])[k]?=Eu u):gj (f207 r (k:Int) e) (wA (j6 .i64) r.er k u.er e.er):=by
 obtain⟨D,v,o⟩:=E7 b w h1
 unfold wA
 rw[lQ hn,vn hv,o.E6]
 unfold f207
 simp only[zy h1,gi hn,gi hv,jw,EU (yb b.L),yH]
 cases hq:kg r.er n1 with
 |none=>exact⟨_,_,rfl,rfl,by decide⟩
 |some j=>
 obtain⟨x,h4,_⟩:=Iy hq
 simp only[Ev,Eo,cond_false,jF,zy h4,wy,h4]
 by_cases hs:u.aq=Ep
 ·rw[hs,if_pos (show u.er.aq=Ep from hs)];exact⟨_,_,rfl,rfl,by decide⟩
 rw[if_neg (show ¬u.er.aq=Ep from hs)]
 rw[Gb]at hs
 simp only[W8 hs,o.Br]
 rw[hs]
 simp only[cond_false]
 by_cases hz:v1=0
 ·rw[dT hz,if_pos hz];exact⟨_,_,rfl,rfl,by decide⟩
 rw[dF hz,if_neg hz]
 simp only[cond_false]
 by_cases hh:x.held=Ep
 ·rw[hh];exact⟨_,_,rfl,rfl,by decide⟩
 have U6:x.held=I:=by simpa using hh
 have L:=Bc (D.aI.getD []) (yI r (k:Int) e u (j:Int) x D) (fun i (c:Bool)=>(c,(i:Int))) (fun c y=>if c then Ep else cN x.kind y) (fun c=>(c,((D.aI.getD []).length:Int))) I (fun c=>by unfold yI;simp only[ky];rfl)
  (fun i c y hy hi=>by
   unfold yI
   simp only[eR hi,cT,jw,zy hy]
   rw[kl (by have:=o.aI;unfold BB at this;omega)]
   cases c<;>rfl)
 rw[W5,Gf]at L
 have L':aY (yI r (k:Int) e u (j:Int) x D) (I,0)=Eu ((D.aI.getD []).any (cN x.kind),((D.aI.getD []).length:Int)):=L
 rw[if_neg hh]
 simp only[U6,cond_false,L',Ge,show D.er.aI=D.aI.getD []from rfl]
 cases (D.aI.getD []).any (cN x.kind)with
 |false=>exact⟨_,_,rfl,rfl,by decide⟩
 |true=>
 simp only[cT,Eo,Ek,if_false]
 by_cases hl:x.left<v1
 ·rw[dT hl,if_pos hl];exact⟨_,_,rfl,rfl,by decide⟩
 rw[dF hl,if_neg hl]
 obtain⟨q,wq,q1,q2⟩:=joh (o:=u.uses) (k:=x.name) (n:=v1) (mG o.uses) o.keyed
 rw[q1]
 simp only[cond_false,q70 b (vr h4)]
 rw[show(⟨u.name,u.product,u.version,q,u.results,u.partner,I,u.aj⟩:qf)={ u with uses:=q } by rw[←hs]]
 have f9:=Bv (r:={ r with ar:=Eu ((r.ar.getD []).set j ⟨x.name,x.kind,x.count,j6 .i64 (x.left-v1),I⟩) }) (x:={ u with uses:=q }) b.U (vr h1)
 have di:({ r with ar:=Eu ((r.ar.getD []).set j ⟨x.name,x.kind,x.count,j6 .i64 (x.left-v1),I⟩),units:=Eu ((r.units.getD []).set k { u with uses:=q }) }:qc).er=aw (b8 r.er j ⟨x.name,x.kind,x.count,j6 .i64 (x.left-v1),I⟩) k { u.er with uses:=mF (j6 .i64) u.er.uses x.name v1 }:=by
  simp only[qc.er,aw,b8,Eh,Gh]
  congr 2
  simp only[qf.er,q2]
 simp only[f9]
 cases wq<;>exact⟨_,_,rfl,rfl,di⟩
theorem jvq (b:GB r)(hk:e.kind=ni)(hc:ki e.er=0){k:Nat}{u n0 n1}(hn:e.names.getD []=[n0,n1])(h1:(r.units.getD [])[k]?=Eu u):gj (f208 r (k:Int) e) (wC r.er k u.er e.er):=by
 unfold wC
 rw[lQ hn]
 unfold f208
 simp only[zy h1,gi hn,jw,Bb (yb b.U),yH]
 cases hq:yg r.er n1 with
 |none=>exact⟨_,_,rfl,rfl,by decide⟩
 |some j=>
 obtain⟨v,h4,_,h5⟩:=oL hq
 rw[jF]
 simp only[Ev,Eo,cond_false,zy h4,h5]
 by_cases c1:k=j
 ·rw[if_pos c1,@dT ((j:Int)=(k:Int)) _ (by omega)];exact⟨_,_,rfl,rfl,by decide⟩
 rw[if_neg c1,@dF ((j:Int)=(k:Int)) _ (by omega)]
 simp only[cond_false]
 by_cases c2:u.product=v.product
 case neg=>rw[dF c2,if_pos (show u.er.product≠v.er.product∨u.er.version≠v.er.version from Or.inl c2)];exact⟨_,_,rfl,rfl,by decide⟩
 by_cases c3:u.version=v.version
 case neg=>rw[dT c2,dF c3,if_pos (show u.er.product≠v.er.product∨u.er.version≠v.er.version from Or.inr c3)];exact⟨_,_,rfl,rfl,by decide⟩
 rw[if_neg (show ¬(u.er.product≠v.er.product∨u.er.version≠v.er.version)from fun h=>h.elim (fun h=>h c2) (fun h=>h c3)),dT c2,dT c3]
 simp only[cT]
 by_cases c4:u.aq=Ep
 ·rw[if_pos (show u.er.aq=Ep∨v.er.aq=Ep from Or.inl c4),c4];exact⟨_,_,rfl,rfl,by decide⟩
 by_cases c5:v.aq=Ep
 ·rw[if_pos (show u.er.aq=Ep∨v.er.aq=Ep from Or.inr c5)]
  have O9:u.aq=I:=by simpa using c4
  rw[O9,c5];exact⟨_,_,rfl,rfl,by decide⟩
 have O9:u.aq=I:=by simpa using c4
 have c5':v.aq=I:=by simpa using c5
 rw[if_neg (show ¬(u.er.aq=Ep∨v.er.aq=Ep)from fun h=>h.elim c4 c5)]
 have f1:=Bv (r:=r) (x:={ u with partner:=v.name }) b.U (vr h1)
 have f2:=Bv (r:={ r with units:=Eu ((r.units.getD []).set k { u with partner:=v.name }) }) (k:=j) (x:={ v with partner:=u.name }) (by rw[Eh,Gc];exact b.U) (by rw[Eh,Gc];exact vr h4)
 have di:({ r with units:=Eu (((r.units.getD []).set k { u with partner:=v.name }).set j { v with partner:=u.name }) }:qc).er=aw (aw r.er k { u.er with partner:=v.er.name }) j { v.er with partner:=u.er.name }:=by
  simp only[qc.er,aw,Eh,Gh]
  rfl
 rw[show(⟨u.name,u.product,u.version,u.uses,u.results,v.name,I,u.aj⟩:qf)={ u with partner:=v.name } by rw[←O9],show(⟨v.name,v.product,v.version,v.uses,v.results,u.name,I,v.aj⟩:qf)={ v with partner:=u.name } by rw[←c5']]
 simp only[f1,f2]
 rw[O9,c5']at di ⊢
 simp only[cond_false]
 by_cases c6:u.partner=[]
 case neg=>rw[if_pos (show u.er.partner≠[]∨v.er.partner≠[]from Or.inl c6),dF c6];exact⟨_,_,rfl,rfl,by decide⟩
 by_cases c7:v.partner=[]
 case neg=>rw[if_pos (show u.er.partner≠[]∨v.er.partner≠[]from Or.inr c7),dT c6,dF c7];exact⟨_,_,rfl,rfl,by decide⟩
 rw[if_neg (show ¬(u.er.partner≠[]∨v.er.partner≠[])from fun h=>h.elim (fun h=>h c6) (fun h=>h c7)),dT c6,dT c7]
 exact⟨_,_,rfl,rfl,di⟩
theorem Ff (b:GB r)(w:WF r.er){kk:List UInt8}(gO:kk=mA∨kk=ni∨kk=oG∨kk=pH∨kk=kP∨kk=x9)(hk:e.kind=kk)(hc:ki e.er=0):gj (f127 r e) (apply (j6 .i64) r.er e.er):=by
 rw[jU hk (by rcases gO with rfl|rfl|rfl|rfl|rfl|rfl<;>decide) (by rcases gO with rfl|rfl|rfl|rfl|rfl|rfl<;>decide),if_neg (by rcases gO with rfl|rfl|rfl|rfl|rfl|rfl<;>decide)]
 obtain⟨n0,t,hn⟩:∃n0 t,e.names.getD []=n0::t:=by
  rcases gO with rfl|rfl|rfl|rfl|rfl|rfl
  ·obtain⟨a,c,h⟩:=gk (fa (c:=2) hk rfl hc).1;exact⟨_,_,h⟩
  ·obtain⟨a,c,h⟩:=gk (fa (c:=1) hk rfl hc).1;exact⟨_,_,h⟩
  ·obtain⟨a,c,h⟩:=gk (fa (c:=2) hk rfl hc).1;exact⟨_,_,h⟩
  ·obtain⟨a,h⟩:=iP (fa (c:=1) hk rfl hc).1;exact⟨_,_,h⟩
  ·obtain⟨a,h⟩:=iP (fa (c:=1) hk rfl hc).1;exact⟨_,_,h⟩
  ·obtain⟨a,h⟩:=iP (fa (c:=1) hk rfl hc).1;exact⟨_,_,h⟩
 cases hp:yg r.er n0 with
 |none=>
  unfold oc
  rw[eF hn,hp]
  unfold f127
  simp only[gE hn,jw,Bb (yb b.U),yH,hp]
  exact⟨_,_,rfl,rfl,by decide⟩
 |some k=>
 obtain⟨u,h1,_,h3⟩:=oL hp
 obtain⟨D,v,o⟩:=E7 b w h1
 rw[wz (eF hn) hp h3]
 unfold f127
 simp only[gE hn,jw,Bb (yb b.U),yH,hp,Ev,Eo,cond_false,jF,zy h1]
 rcases gO with rfl|rfl|rfl|rfl|rfl|rfl
 ·obtain⟨g1,g2⟩:=fa (a:=2) (c:=2) hk rfl hc
  obtain⟨a,c,iL⟩:=gk g1
  obtain⟨v0,v1,hv⟩:=gk g2
  rw[if_pos hk,show decide (e.kind=([117,115,101]:List UInt8))=Ep from dT hk]
  obtain⟨r',cc,q1,q2⟩:=j3a b w hk hc iL hv h1
  simp only[cT,q1]
  exact⟨_,_,rfl,q2⟩
 ·obtain⟨g1,g2⟩:=fa (a:=2) (c:=1) hk rfl hc
  obtain⟨a,c,iL⟩:=gk g1
  rw[if_neg (show ¬e.kind=mA by rw[hk];decide),if_pos hk,show decide (e.kind=([117,115,101]:List UInt8))=I from dF (by rw[hk];decide),show decide (e.kind=([112,97,105,114]:List UInt8))=Ep from dT hk]
  obtain⟨r',cc,q1,q2⟩:=jvq b hk hc iL h1
  simp only[cT,cond_false,q1]
  exact⟨_,_,rfl,q2⟩
 ·obtain⟨g1,g2⟩:=fa (a:=2) (c:=2) hk rfl hc
  obtain⟨a,n1,iL⟩:=gk g1
  obtain⟨v0,v1,hv⟩:=gk g2
  rw[if_neg (show ¬e.kind=mA by rw[hk];decide),if_neg (show ¬e.kind=ni by rw[hk];decide),if_pos hk,show decide (e.kind=([117,115,101]:List UInt8))=I from dF (by rw[hk];decide),show decide (e.kind=([112,97,105,114]:List UInt8))=I from dF (by rw[hk];decide),show decide (e.kind=([109,101,97,115,117,114,101]:List UInt8))=Ep from dT hk,lQ iL,vn hv,o.E6]
  simp only[cT,cond_false]
  by_cases hs:u.aq=Ep
  ·rw[hs];exact⟨_,_,rfl,rfl,by decide⟩
  have gy:u.aq=I:=by simpa using hs
  have L:=Bc (D.aH.getD []) (yJ r e (k:Int) u D) (fun i (c:Bool)=>(c,(i:Int))) (fun c y=>if c then Ep else ec n1 y) (fun c=>(c,((D.aH.getD []).length:Int))) I (fun c=>by unfold yJ;simp only[ky];rfl)
   (fun i c y hy hi=>by
    unfold yJ
    simp only[eR hi,cT,jw,zy hy,gi iL]
    rw[kl (by have:=o.aH;unfold BB at this;omega)]
    cases c<;>rfl)
  rw[W5,Gf]at L
  have L':aY (yJ r e (k:Int) u D) (I,0)=Eu ((D.aH.getD []).any (ec n1),((D.aH.getD []).length:Int)):=L
  rw[if_neg hs]
  simp only[W8 gy,o.Br,L',gi iL,gi hv,Bl (yb o.results)]
  rw[gy,E0 (o:=Eu (u.results.getD [])) (by have:=mG o.results;simp only[Eh,En];omega) (by simp)]
  simp only[cond_false,Ge,show D.er.aH=D.aH.getD []from rfl]
  cases (D.aH.getD []).any (ec n1)with
  |false=>exact⟨_,_,rfl,rfl,by decide⟩
  |true=>
   have f9:=Bv (r:=r) (x:={ u with results:=Eu (u.results.getD []++[⟨n1,u.version,v1⟩]) }) b.U (vr h1)
   have di:({ r with units:=Eu ((r.units.getD []).set k { u with results:=Eu (u.results.getD []++[⟨n1,u.version,v1⟩]) }) }:qc).er=aw r.er k { u.er with results:=u.results.getD []++[⟨n1,u.version,v1⟩] }:=by rw[yG rfl];rfl
   rw[gy]at f9
   by_cases h2:64≤(u.results.getD []).length
   ·simp only[show decide (64≤((u.results.getD []).length:Int))=Ep from dT (by omega),if_pos h2,Eo,Ek,if_false,cT]
    exact⟨_,_,rfl,rfl,by decide⟩
   ·simp only[show decide (64≤((u.results.getD []).length:Int))=I from dF (by omega),if_neg h2,Eo,Ek,if_false,cT,cond_false,Eh,f9]
    rw[gy]at di
    exact⟨_,_,rfl,rfl,di⟩
 ·rw[if_neg (show ¬e.kind=mA by rw[hk];decide),if_neg (show ¬e.kind=ni by rw[hk];decide),if_neg (show ¬e.kind=oG by rw[hk];decide),if_pos hk,show decide (e.kind=([117,115,101]:List UInt8))=I from dF (by rw[hk];decide),show decide (e.kind=([112,97,105,114]:List UInt8))=I from dF (by rw[hk];decide),show decide (e.kind=([109,101,97,115,117,114,101]:List UInt8))=I from dF (by rw[hk];decide),show decide (e.kind=([117,112,100,97,116,101]:List UInt8))=Ep from dT hk,o.new]
  simp only[cT,cond_false]
  by_cases hs:u.aq=Ep
  ·rw[hs];exact⟨_,_,rfl,rfl,by decide⟩
  have gy:u.aq=I:=by simpa using hs
  rw[if_neg hs]
  have f9:=Bv (r:=r) (x:={ u with version:=v }) b.U (vr h1)
  have di:({ r with units:=Eu ((r.units.getD []).set k { u with version:=v }) }:qc).er=aw r.er k { u.er with version:=v }:=by rw[yG rfl];rfl
  rw[gy]at f9 di
  simp only[W8 gy,(O0 (yb b.P) o.new).2,f9]
  rw[gy]
  simp only[cond_false]
  by_cases h:u.version=v
  ·rw[dT h,if_pos h];exact⟨_,_,rfl,rfl,by decide⟩
  ·rw[dF h,if_neg h];exact⟨_,_,rfl,rfl,di⟩
 ·rw[if_neg (show ¬e.kind=mA by rw[hk];decide),if_neg (show ¬e.kind=ni by rw[hk];decide),if_neg (show ¬e.kind=oG by rw[hk];decide),if_neg (show ¬e.kind=pH by rw[hk];decide),if_pos hk,show decide (e.kind=([117,115,101]:List UInt8))=I from dF (by rw[hk];decide),show decide (e.kind=([112,97,105,114]:List UInt8))=I from dF (by rw[hk];decide),show decide (e.kind=([109,101,97,115,117,114,101]:List UInt8))=I from dF (by rw[hk];decide),show decide (e.kind=([117,112,100,97,116,101]:List UInt8))=I from dF (by rw[hk];decide),show decide (e.kind=([115,104,105,112]:List UInt8))=Ep from dT hk]
  have g2:=jvh (yb b.P) o.new (yb b.L) (yb o.uses) o.ar o.Br o.E6 (yb o.aI) (yb o.results) (yb o.aH)
  have f9:=Bv (r:=r) (x:={ u with aq:=Ep }) b.U (vr h1)
  simp only[cT,cond_false,g2,f9]
  by_cases h:vm (j6 .i64) r.er u.er=0
  ·rw[dT h,if_neg (fun hh=>hh h)];exact⟨_,_,rfl,rfl,yG rfl⟩
  ·rw[dF h,if_pos h];exact⟨_,_,rfl,rfl,h⟩
 ·rw[if_neg (show ¬e.kind=mA by rw[hk];decide),if_neg (show ¬e.kind=ni by rw[hk];decide),if_neg (show ¬e.kind=oG by rw[hk];decide),if_neg (show ¬e.kind=pH by rw[hk];decide),if_neg (show ¬e.kind=kP by rw[hk];decide),show decide (e.kind=([117,115,101]:List UInt8))=I from dF (by rw[hk];decide),show decide (e.kind=([112,97,105,114]:List UInt8))=I from dF (by rw[hk];decide),show decide (e.kind=([109,101,97,115,117,114,101]:List UInt8))=I from dF (by rw[hk];decide),show decide (e.kind=([117,112,100,97,116,101]:List UInt8))=I from dF (by rw[hk];decide),show decide (e.kind=([115,104,105,112]:List UInt8))=I from dF (by rw[hk];decide)]
  have f9:=Bv (r:=r) (x:={ u with aj:=j6 .i64 (u.aj+1) }) b.U (vr h1)
  have di:({ r with units:=Eu ((r.units.getD []).set k { u with aj:=j6 .i64 (u.aj+1) }) }:qc).er=aw r.er k { u.er with aj:=j6 .i64 (u.aj+1) }:=by rw[yG rfl];rfl
  simp only[cond_false]
  by_cases hs:u.aq=Ep
  ·rw[hs]at f9 di ⊢
   simp only[f9]
   exact⟨_,_,rfl,rfl,di⟩
  ·have gy:u.aq=I:=by simpa using hs
   rw[gy]
   exact⟨_,_,rfl,rfl,by decide⟩
end Go.Z
