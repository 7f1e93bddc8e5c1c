/- Chapter 10, plain. -/
import Derived.Test.YtfopaakmgogpiaaGreatDoorE9
import Derived.Test.YtfopaakmgogpiaaGreatDoorW12
set_option linter.unusedVariables false
set_option linter.unusedSimpArgs false
set_option maxRecDepth 100000
set_option maxHeartbeats 4000000
namespace Go.Z
open Go Go.Abs Go.W
variable {r:qc}{e:ql}
theorem q3a {a lo hi:Int}:f59 a lo hi=some (decide (a<lo∨hi<a)):=by
 unfold f59
 by_cases h:a<lo
 ·simp[h]
 ·simp[h]
theorem qja {o:Option Nat}:decide (ixI o<0)=!o.isSome:=by
 cases o with
 |none=>rfl
 |some k=>exact dF (by show ¬(k:Int)<0;omega)
theorem jxq (b:GB r)(hk:e.kind=qd8)(hc:yx e.er=0):qcg (f124 r e) (z8 (j6 .i64) r.er e.er):=by
 obtain⟨h1,h2⟩:=qaz hk (show qax qd8=some (2,2)from rfl) hc
 obtain⟨n0,n1,hn⟩:=qch h1
 obtain⟨v0,v1,hv⟩:=qch h2
 unfold z8 qgr
 rw[show e.er.kind=qd8 from hk,if_pos (by decide),if_pos rfl,nm0 hn,nm1 hn,vl1 hv,qf7]
 unfold f124
 simp only[qcl hn,qcc hn,qcc hv,jw,qqf (yg b.L),qdu,q3a,qfr (yg b.L)]
 rw[show decide (e.kind=([108,111,116]:List UInt8))=true from dT hk,qie (o:=some (r.lots.getD [])) (by have:=qeb b.L;simp only[Option.getD_some,List.length_singleton];omega) (by simp)]
 simp only[cT]
 cases (kx r.er n0).isSome with
 |true=>exact⟨_,_,rfl,rfl,by decide⟩
 |false=>
  by_cases h1:v1<1∨10000<v1
  ·simp only[dT h1,if_pos h1]
   exact⟨_,_,rfl,rfl,by decide⟩
  ·simp only[dF h1,if_neg h1]
   by_cases h2:64≤(r.lots.getD []).length
   ·simp only[show decide (64≤((r.lots.getD []).length:Int))=true from dT (by omega),qf7,if_pos h2,Bool.false_eq_true,if_false]
    exact⟨_,_,rfl,rfl,by decide⟩
   ·simp only[show decide (64≤((r.lots.getD []).length:Int))=false from dF (by omega),qf7,if_neg h2,Bool.false_eq_true,if_false]
    exact⟨_,_,rfl,rfl,rfl⟩
theorem jbe (b:GB r)(hk:e.kind=qbd)(hc:yx e.er=0):qcg (f124 r e) (z8 (j6 .i64) r.er e.er):=by
 obtain⟨h1,h2⟩:=qaz hk (show qax qbd=some (1,1)from rfl) hc
 obtain⟨n0,hn⟩:=qdf h1
 unfold z8 qgr
 rw[show e.er.kind=qbd from hk,if_pos (by decide),if_neg (by decide),if_pos rfl,nm0 hn]
 have hl:r.er.products.length=(r.products.getD []).length:=by rw[qfl,List.length_map]
 unfold f124
 simp only[qcl hn,jw,qj3 (yg b.P),qdu,qfr (yg b.P),hl]
 rw[show decide (e.kind=([108,111,116]:List UInt8))=false from dF (by rw[hk];decide),show decide (e.kind=([112,114,111,100,117,99,116]:List UInt8))=true from dT hk,qie (o:=some (r.products.getD [])) (by have:=qeb b.P;simp only[Option.getD_some,List.length_singleton];omega) (by simp)]
 simp only[cT,cond_false]
 cases (ky r.er n0).isSome with
 |true=>exact⟨_,_,rfl,rfl,by decide⟩
 |false=>
  by_cases h2:16≤(r.products.getD []).length
  ·simp only[show decide (16≤((r.products.getD []).length:Int))=true from dT (by omega),if_pos h2]
   exact⟨_,_,rfl,rfl,by decide⟩
  ·simp only[show decide (16≤((r.products.getD []).length:Int))=false from dF (by omega),if_neg h2]
   exact⟨_,_,rfl,rfl,qwk rfl⟩
theorem jll (b:GB r)(hk:e.kind=qc7)(hc:yx e.er=0):qcg (f124 r e) (z8 (j6 .i64) r.er e.er):=by
 obtain⟨h1,h2⟩:=qaz hk (show qax qc7=some (2,1)from rfl) hc
 obtain⟨n0,n1,hn⟩:=qch h1
 unfold z8 qgr
 rw[show e.er.kind=qc7 from hk,if_pos (by decide),if_neg (by decide),if_neg (by decide),nm0 hn,nm1 hn]
 have hl:r.er.units.length=(r.units.getD []).length:=by rw[qgw,List.length_map]
 unfold f124
 simp only[qcl hn,qcc hn,jw,qj3 (yg b.P),qwu (yg b.U),qdu,qja,qfr (yg b.U),hl]
 rw[show decide (e.kind=([108,111,116]:List UInt8))=false from dF (by rw[hk];decide),show decide (e.kind=([112,114,111,100,117,99,116]:List UInt8))=false from dF (by rw[hk];decide)]
 simp only[cond_false]
 unfold qc0
 cases hp:ky r.er n1 with
 |none=>exact⟨_,_,rfl,rfl,by decide⟩
 |some k=>
  obtain⟨p,g1,_,g3⟩:=qm6 hp
  have hd:p.er.docs.isEmpty=decide (((p.docs.getD []).length:Int)=0):=by
   show((p.docs.getD []).map qr.er).isEmpty=_
   cases p.docs.getD []with
   |nil=>rfl
   |cons x l=>simp;omega
  have hd2:p.er.docs.length=(p.docs.getD []).length:=by show((p.docs.getD []).map qr.er).length=_;rw[List.length_map]
  simp only[Option.isSome_some,Bool.not_true,cond_false,qat,z6 g1,Option.bind_some,g3,hd,hd2]
  rw[qie (o:=some (r.units.getD [])) (by have:=qeb b.U;simp only[Option.getD_some,List.length_singleton];omega) (by simp)]
  cases (km r.er n0).isSome with
  |true=>exact⟨_,_,rfl,rfl,by decide⟩
  |false=>
   cases decide (((p.docs.getD []).length:Int)=0)with
   |true=>exact⟨_,_,rfl,rfl,by decide⟩
   |false=>
    by_cases h2:256≤(r.units.getD []).length
    ·simp only[show decide (256≤((r.units.getD []).length:Int))=true from dT (by omega),if_pos h2]
     exact⟨_,_,rfl,rfl,by decide⟩
    ·simp only[show decide (256≤((r.units.getD []).length:Int))=false from dF (by omega),if_neg h2]
     exact⟨_,_,rfl,rfl,qxz rfl⟩
theorem q6y (b:GB r){k:Nat}{x:qj}(hk:k<(r.lots.getD []).length):f206 r (k:Int) x=some { r with lots:=some ((r.lots.getD []).set k x) }:=by
 unfold f206;rw[q41 (yg b.L) hk];rfl
theorem jmu (b:GB r){k:Nat}{x:qi}(hk:k<(r.products.getD []).length):f205 r (k:Int) x=some { r with products:=some ((r.products.getD []).set k x) }:=by
 unfold f205;rw[q41 (yg b.P) hk];rfl
theorem qia (hb:(r.units.getD []).length≤BB){k:Nat}{x:qf}(hk:k<(r.units.getD []).length):f209 r (k:Int) x=some { r with units:=some ((r.units.getD []).set k x) }:=by
 unfold f209;rw[q41 (yg hb) hk];rfl
theorem qgk {α:Type}{l:List α}{k:Nat}{x:α}(h:l[k]?=some x):k<l.length:=(List.getElem?_eq_some_iff.1 h).1
theorem jan (b:GB r)(hold:Bool)(hk:e.kind=if hold then qdw else qfg)(hc:yx e.er=0):qcg (f126 r e) (z8 (j6 .i64) r.er e.er):=by
 obtain⟨h1,h2⟩:=qaz (a:=1) (c:=1) hk (by cases hold<;>rfl) hc
 obtain⟨n0,hn⟩:=qdf h1
 rw[qbb hk (by cases hold<;>decide) (by cases hold<;>decide),if_pos (by cases hold<;>decide)]
 unfold qln
 rw[nm0 hn]
 unfold f126
 simp only[qcl hn,jw,qqf (yg b.L),qja]
 cases hp:kx r.er n0 with
 |none=>exact⟨_,_,rfl,rfl,by decide⟩
 |some k=>
  obtain⟨x,g1,_⟩:=qvi hp
  simp only[Option.isSome_some,Bool.not_true,cond_false,qat,z6 g1,qf7,g1,q6y b (qgk g1),show e.er.kind=e.kind from rfl]
  cases hold with
  |true=>
   have hk:e.kind=qdw:=hk
   rw[show decide (e.kind=([104,111,108,100]:List UInt8))=true from dT hk,show decide (e.kind=([102,114,101,101]:List UInt8))=false from dF (by rw[hk];decide),if_pos hk]
   by_cases hh:x.held=true
   ·simp only[hh,cT,if_true];exact⟨_,_,rfl,rfl,by decide⟩
   ·rw[Bool.not_eq_true]at hh
    simp only[hh,cT,cond_false,Bool.false_eq_true,if_false];exact⟨_,_,rfl,rfl,qlt rfl⟩
  |false=>
   have hk:e.kind=qfg:=hk
   rw[show decide (e.kind=([104,111,108,100]:List UInt8))=false from dF (by rw[hk];decide),show decide (e.kind=([102,114,101,101]:List UInt8))=true from dT hk,if_neg (by rw[hk];decide)]
   by_cases hh:x.held=true
   ·simp only[hh,cT,cond_false,Bool.not_true,Bool.false_eq_true,if_false];exact⟨_,_,rfl,rfl,qlt rfl⟩
   ·rw[Bool.not_eq_true]at hh
    simp only[hh,cT,cond_false,Bool.not_false,if_true];exact⟨_,_,rfl,rfl,by decide⟩
theorem q2v {α:Type}{l:List α}{p:α→Bool}{x:α}(h:l.length≤16):16<(qbs p x l).length↔(!(l.any p))=true∧16≤l.length:=by
 unfold qbs
 rw[any_findIdx]
 cases hi:l.findIdx? p with
 |some i=>
  simp only[List.length_set]
  constructor
  ·intro h2;omega
  ·rintro ⟨h2,_⟩;cases h2
 |none=>
  simp only[List.length_append,List.length_singleton]
  constructor
  ·intro h2;exact⟨rfl,by omega⟩
  ·rintro ⟨_,h2⟩;omega
theorem q2p (b:GB r)(w:WF r.er){kk:List UInt8}(hkk:kk=qc2∨kk=qc9∨kk=qdh)(hk:e.kind=kk)(hc:yx e.er=0)(hv0:∀v∈e.values.getD [],0≤v):qcg (f125 r e) (z8 (j6 .i64) r.er e.er):=by
 have hR:z8 (j6 .i64) r.er e.er=qb8 r.er e.er:=by
  unfold z8
  rw[show e.er.kind=kk from hk,if_neg (by rcases hkk with rfl|rfl|rfl<;>decide),if_pos hkk]
 rw[hR]
 obtain⟨n0,t,hn⟩:∃n0 t,e.names.getD []=n0::t:=by
  rcases hkk with rfl|rfl|rfl
  ·obtain⟨a,c,h⟩:=qch (qaz (c:=2) hk rfl hc).1;exact⟨_,_,h⟩
  ·obtain⟨a,c,h⟩:=qch (qaz (c:=3) hk rfl hc).1;exact⟨_,_,h⟩
  ·obtain⟨a,h⟩:=qdf (qaz (c:=1) hk rfl hc).1;exact⟨_,_,h⟩
 cases hp:ky r.er n0 with
 |none=>
  unfold qb8
  rw[nm0 hn,hp]
  unfold f125
  simp only[qcl hn,jw,qj3 (yg b.P),qja,hp]
  exact⟨_,_,rfl,rfl,by decide⟩
 |some k=>
 obtain⟨p,g1,_,g3⟩:=qm6 hp
 have hm:=List.mem_of_getElem? g1
 have hD:=b.D p hm
 have hpe:p.er∈r.er.products:=by rw[qfl];exact List.mem_map_of_mem hm
 have hkn:=w.needs _ hpe
 have hkt:=w.tests _ hpe
 have hkn1:qb5 (·.k) (p.dn.getD []):=hkn.1
 have hkn2:(p.dn.getD []).length≤16:=hkn.2
 have hkt1:qb5 (·.k) (p.dt.getD []):=hkt.1
 have hkt2:(p.dt.getD []).length≤16:=hkt.2
 rw[onP (nm0 hn) hp g3]
 unfold f125
 simp only[qcl hn,jw,qj3 (yg b.P),qja,hp,Option.isSome_some,Bool.not_true,cond_false,qat,z6 g1,jmu b (qgk g1)]
 rcases hkk with rfl|rfl|rfl
 ·obtain⟨h1,h2⟩:=qaz (a:=2) (c:=2) hk rfl hc
  obtain⟨n0',n1,hn'⟩:=qch h1
  obtain⟨v0,v1,hv⟩:=qch h2
  have h0:0≤v1:=hv0 v1 (by rw[hv];simp)
  obtain⟨v,ww,f1,f2⟩:=jkf (x:=⟨n1,v1⟩) (qeb hD.2.1) hkn1 h0
  have f2:v.getD []=qbn (p.dn.getD []) n1 v1:=f2
  rw[if_pos hk,nm1 hn',vl1 hv]
  simp only[qcc hv,qcc hn',f1,show decide (e.kind=([110,101,101,100]:List UInt8))=true from dT hk,cT]
  by_cases hz:10000<v1
  ·rw[dT hz,if_pos (Or.inr hz)];exact⟨_,_,rfl,rfl,by decide⟩
  ·rw[dF hz,if_neg (show ¬(v1<0∨10000<v1) by omega)]
   have hok:({ r with products:=some ((r.products.getD []).set k ⟨p.name,v,p.dt,p.docs⟩) }:qc).er=setProd r.er k { p.er with draft:={ p.er.draft with needs:=qbn (p.dn.getD []) n1 v1 } }:=by
    rw[qga rfl]
    congr 1
    simp only[qi.er,f2]
   have hlen:decide (16<((v.getD []).length:Int))=decide (16<(qbn (p.dn.getD []) n1 v1).length):=by
    rw[f2]
    by_cases h:16<(qbn (p.dn.getD []) n1 v1).length
    ·rw[dT h];exact dT (by omega)
    ·rw[dF h];exact dF (by omega)
   have hcond:16<(qbn (p.dn.getD []) n1 v1).length↔(0<v1∧(!(p.dn.getD []).any (isK n1))=true∧16≤(p.dn.getD []).length):=by
    unfold qbn
    by_cases hz0:v1=0
    ·rw[if_pos hz0]
     have:=List.length_filter_le (fun x=>!isK n1 x) (p.dn.getD [])
     constructor
     ·intro h;omega
     ·rintro ⟨h,_⟩;omega
    ·rw[if_neg hz0,q2v hkn2]
     constructor
     ·intro h;exact⟨by omega,h⟩
     ·exact fun h=>h.2
   simp only[cond_false,hlen]
   by_cases h16:16<(qbn (p.dn.getD []) n1 v1).length
   ·rw[dT h16,if_pos (hcond.1 h16)]
    cases ww<;>exact⟨_,_,rfl,rfl,by decide⟩
   ·rw[dF h16,if_neg (fun h=>h16 (hcond.2 h))]
    cases ww<;>exact⟨_,_,rfl,rfl,hok⟩
 ·obtain⟨h1,h2⟩:=qaz (a:=2) (c:=3) hk rfl hc
  obtain⟨n0',n1,hn'⟩:=qch h1
  obtain⟨v0,v1,v2,hv⟩:=jr7 h2
  obtain⟨v,ww,f1,f2⟩:=jmd (x:=⟨n1,v1,v2⟩) (qeb hD.2.2.1) hkt1
  have f2:v.getD []=qbs (isT n1) ⟨n1,v1,v2⟩ (p.dt.getD []):=f2
  rw[if_neg (show ¬e.kind=qc2 by rw[hk];decide),if_pos hk,nm1 hn',vl1 hv,vl2 hv]
  simp only[qcc hv,jsd hv,qcc hn',f1,show decide (e.kind=([110,101,101,100]:List UInt8))=false from dF (by rw[hk];decide),show decide (e.kind=([116,101,115,116]:List UInt8))=true from dT hk,cT,cond_false]
  by_cases hz:v2<v1
  ·rw[dT hz,if_pos hz];exact⟨_,_,rfl,rfl,by decide⟩
  ·rw[dF hz,if_neg hz]
   have hok:({ r with products:=some ((r.products.getD []).set k ⟨p.name,p.dn,v,p.docs⟩) }:qc).er=setProd r.er k { p.er with draft:={ p.er.draft with tests:=qbs (isT n1) ⟨n1,v1,v2⟩ (p.dt.getD []) } }:=by
    rw[qga rfl]
    congr 1
    simp only[qi.er,f2]
   have hlen:decide (16<((v.getD []).length:Int))=decide (16<(qbs (isT n1) ⟨n1,v1,v2⟩ (p.dt.getD [])).length):=by
    rw[f2]
    by_cases h:16<(qbs (isT n1) ⟨n1,v1,v2⟩ (p.dt.getD [])).length
    ·rw[dT h];exact dT (by omega)
    ·rw[dF h];exact dF (by omega)
   have hcond:=q2v (p:=isT n1) (x:=(⟨n1,v1,v2⟩:qk)) hkt2
   simp only[cond_false,hlen]
   by_cases h16:16<(qbs (isT n1) ⟨n1,v1,v2⟩ (p.dt.getD [])).length
   ·rw[dT h16,if_pos (hcond.1 h16)]
    cases ww<;>exact⟨_,_,rfl,rfl,by decide⟩
   ·rw[dF h16,if_neg (fun h=>h16 (hcond.2 h))]
    cases ww<;>exact⟨_,_,rfl,rfl,hok⟩
 ·rw[if_neg (show ¬e.kind=qc2 by rw[hk];decide),if_neg (show ¬e.kind=qc9 by rw[hk];decide)]
  simp only[show decide (e.kind=([110,101,101,100]:List UInt8))=false from dF (by rw[hk];decide),show decide (e.kind=([116,101,115,116]:List UInt8))=false from dF (by rw[hk];decide),cond_false,qfr (yg hD.1)]
  rw[qie (o:=some (p.docs.getD [])) (by have:=qeb hD.1;simp only[Option.getD_some,List.length_singleton];omega) (by simp)]
  have hd2:p.er.docs.length=(p.docs.getD []).length:=by show((p.docs.getD []).map qr.er).length=_;rw[List.length_map]
  have hd:(p.dn.getD []).isEmpty=decide (((p.dn.getD []).length:Int)=0):=by
   cases p.dn.getD []with
   |nil=>rfl
   |cons x l=>simp;omega
  have hok:({ r with products:=some ((r.products.getD []).set k ⟨p.name,p.dn,p.dt,some (p.docs.getD []++[⟨p.dn,p.dt⟩])⟩) }:qc).er=setProd r.er k { p.er with docs:=p.er.docs++[p.er.draft] }:=by
   rw[qga rfl]
   congr 1
   simp only[qi.er,Option.getD_some,List.map_append,List.map_cons,List.map_nil]
   rfl
  simp only[hd,hd2]
  cases decide (((p.dn.getD []).length:Int)=0)with
  |true=>exact⟨_,_,rfl,rfl,by decide⟩
  |false=>
   by_cases h2:100≤(p.docs.getD []).length
   ·simp only[show decide (100≤((p.docs.getD []).length:Int))=true from dT (by omega),if_pos h2,Bool.false_eq_true,if_false]
    exact⟨_,_,rfl,rfl,by decide⟩
   ·simp only[show decide (100≤((p.docs.getD []).length:Int))=false from dF (by omega),if_neg h2,Bool.false_eq_true,if_false]
    exact⟨_,_,rfl,rfl,hok⟩
end Go.Z
namespace Go.Z
open Go Go.Abs Go.W
variable {r:qc}{e:ql}
theorem q3r {α:Type}(p:α→Bool):∀(l:List α) (c:Bool),l.foldl (fun c x=>if c then true else p x) c=(c||l.any p)
 | [],c=>by simp
 |x::l,c=>by
  rw[List.foldl_cons,q3r p l,List.any_cons]
  cases c<;>simp
theorem q3b {u:qf}(h:u.shipped=false):(⟨u.name,u.product,u.version,u.uses,u.results,u.partner,false,u.complaints⟩:qf)=u:=by cases u;simp only at h;rw[h]
theorem j1g (b:GB r)(w:WF r.er)(hk:e.kind=qd7)(hc:yx e.er=0){k:Nat}{u:qf}{n0 n1:List UInt8}{v0 v1:Int}(hn:e.names.getD []=[n0,n1])(hv:e.values.getD []=[v0,v1])(h1:(r.units.getD [])[k]?=some u):qcg (f207 r (k:Int) e) (qpk (j6 .i64) r.er k u.er e.er):=by
 obtain⟨D,v,o⟩:=qj9 b w h1
 unfold qpk
 rw[nm1 hn,vl1 hv,o.pap]
 unfold f207
 simp only[z6 h1,qcc hn,qcc hv,jw,qqf (yg b.L),qja]
 cases hq:kx r.er n1 with
 |none=>exact⟨_,_,rfl,rfl,by decide⟩
 |some j=>
 obtain⟨x,h4,_⟩:=qvi hq
 simp only[Option.isSome_some,Bool.not_true,cond_false,qat,z6 h4,qf7,h4]
 by_cases hs:u.shipped=true
 ·rw[hs,if_pos (show u.er.shipped=true from hs)];exact⟨_,_,rfl,rfl,by decide⟩
 rw[if_neg (show ¬u.er.shipped=true from hs)]
 rw[Bool.not_eq_true]at hs
 simp only[q3b hs,o.doc']
 rw[hs]
 simp only[cond_false]
 by_cases hz:v1=0
 ·rw[dT hz,if_pos hz];exact⟨_,_,rfl,rfl,by decide⟩
 rw[dF hz,if_neg hz]
 simp only[cond_false]
 by_cases hh:x.held=true
 ·rw[hh];exact⟨_,_,rfl,rfl,by decide⟩
 have hh':x.held=false:=by simpa using hh
 have L:=qn0 (D.needs.getD []) (qiz r (k:Int) e u (j:Int) x D) (fun i (c:Bool)=>(c,(i:Int))) (fun c y=>if c then true else isK x.kind y) (fun c=>(c,((D.needs.getD []).length:Int))) false (fun c=>by unfold qiz;simp only[ku];rfl)
  (fun i c y hy hi=>by
   unfold qiz
   simp only[qal hi,cT,jw,z6 hy]
   rw[qaj (by have:=o.needs;unfold BB at this;omega)]
   cases c<;>rfl)
 rw[q3r,Bool.false_or]at L
 have L':itO (qiz r (k:Int) e u (j:Int) x D) (false,0)=some ((D.needs.getD []).any (isK x.kind),((D.needs.getD []).length:Int)):=L
 rw[if_neg hh]
 simp only[hh',cond_false,L',Option.any_some,show D.er.needs=D.needs.getD []from rfl]
 cases (D.needs.getD []).any (isK x.kind)with
 |false=>exact⟨_,_,rfl,rfl,by decide⟩
 |true=>
 simp only[cT,Bool.not_true,Bool.false_eq_true,if_false]
 by_cases hl:x.left<v1
 ·rw[dT hl,if_pos hl];exact⟨_,_,rfl,rfl,by decide⟩
 rw[dF hl,if_neg hl]
 obtain⟨q,wq,q1,q2⟩:=jlx (o:=u.uses) (k:=x.name) (n:=v1) (qeb o.uses) o.keyed
 rw[q1]
 simp only[cond_false,q6y b (qgk h4)]
 rw[show(⟨u.name,u.product,u.version,q,u.results,u.partner,false,u.complaints⟩:qf)={ u with uses:=q } by rw[←hs]]
 have f9:=qia (r:={ r with lots:=some ((r.lots.getD []).set j ⟨x.name,x.kind,x.count,j6 .i64 (x.left-v1),false⟩) }) (x:={ u with uses:=q }) b.U (qgk h1)
 have hok:({ r with lots:=some ((r.lots.getD []).set j ⟨x.name,x.kind,x.count,j6 .i64 (x.left-v1),false⟩),units:=some ((r.units.getD []).set k { u with uses:=q }) }:qc).er=setUnit (setLot r.er j ⟨x.name,x.kind,x.count,j6 .i64 (x.left-v1),false⟩) k { u.er with uses:=qgg (j6 .i64) u.er.uses x.name v1 }:=by
  simp only[qc.er,setUnit,setLot,Option.getD_some,List.map_set]
  congr 2
  simp only[qf.er,q2]
 simp only[f9]
 cases wq<;>exact⟨_,_,rfl,rfl,hok⟩
theorem jqb (b:GB r)(hk:e.kind=qda)(hc:yx e.er=0){k:Nat}{u:qf}{n0 n1:List UInt8}(hn:e.names.getD []=[n0,n1])(h1:(r.units.getD [])[k]?=some u):qcg (f208 r (k:Int) e) (qkv r.er k u.er e.er):=by
 unfold qkv
 rw[nm1 hn]
 unfold f208
 simp only[z6 h1,qcc hn,jw,qwu (yg b.U),qja]
 cases hq:km r.er n1 with
 |none=>exact⟨_,_,rfl,rfl,by decide⟩
 |some j=>
 obtain⟨v,h4,_,h5⟩:=qfo hq
 rw[qat]
 simp only[Option.isSome_some,Bool.not_true,cond_false,z6 h4,h5]
 by_cases c1:k=j
 ·rw[if_pos c1,@dT ((j:Int)=(k:Int)) _ (by omega)];exact⟨_,_,rfl,rfl,by decide⟩
 rw[if_neg c1,@dF ((j:Int)=(k:Int)) _ (by omega)]
 simp only[cond_false]
 by_cases c2:u.product=v.product
 case neg=>rw[dF c2,if_pos (show u.er.product≠v.er.product∨u.er.version≠v.er.version from Or.inl c2)];exact⟨_,_,rfl,rfl,by decide⟩
 by_cases c3:u.version=v.version
 case neg=>rw[dT c2,dF c3,if_pos (show u.er.product≠v.er.product∨u.er.version≠v.er.version from Or.inr c3)];exact⟨_,_,rfl,rfl,by decide⟩
 rw[if_neg (show ¬(u.er.product≠v.er.product∨u.er.version≠v.er.version)from fun h=>h.elim (fun h=>h c2) (fun h=>h c3)),dT c2,dT c3]
 simp only[cT]
 by_cases c4:u.shipped=true
 ·rw[if_pos (show u.er.shipped=true∨v.er.shipped=true from Or.inl c4),c4];exact⟨_,_,rfl,rfl,by decide⟩
 by_cases c5:v.shipped=true
 ·rw[if_pos (show u.er.shipped=true∨v.er.shipped=true from Or.inr c5)]
  have c4':u.shipped=false:=by simpa using c4
  rw[c4',c5];exact⟨_,_,rfl,rfl,by decide⟩
 have c4':u.shipped=false:=by simpa using c4
 have c5':v.shipped=false:=by simpa using c5
 rw[if_neg (show ¬(u.er.shipped=true∨v.er.shipped=true)from fun h=>h.elim c4 c5)]
 have f1:=qia (r:=r) (x:={ u with partner:=v.name }) b.U (qgk h1)
 have f2:=qia (r:={ r with units:=some ((r.units.getD []).set k { u with partner:=v.name }) }) (k:=j) (x:={ v with partner:=u.name }) (by rw[Option.getD_some,List.length_set];exact b.U) (by rw[Option.getD_some,List.length_set];exact qgk h4)
 have hok:({ r with units:=some (((r.units.getD []).set k { u with partner:=v.name }).set j { v with partner:=u.name }) }:qc).er=setUnit (setUnit r.er k { u.er with partner:=v.er.name }) j { v.er with partner:=u.er.name }:=by
  simp only[qc.er,setUnit,Option.getD_some,List.map_set]
  rfl
 rw[show(⟨u.name,u.product,u.version,u.uses,u.results,v.name,false,u.complaints⟩:qf)={ u with partner:=v.name } by rw[←c4'],show(⟨v.name,v.product,v.version,v.uses,v.results,u.name,false,v.complaints⟩:qf)={ v with partner:=u.name } by rw[←c5']]
 simp only[f1,f2]
 rw[c4',c5']at hok ⊢
 simp only[cond_false]
 by_cases c6:u.partner=[]
 case neg=>rw[if_pos (show u.er.partner≠[]∨v.er.partner≠[]from Or.inl c6),dF c6];exact⟨_,_,rfl,rfl,by decide⟩
 by_cases c7:v.partner=[]
 case neg=>rw[if_pos (show u.er.partner≠[]∨v.er.partner≠[]from Or.inr c7),dT c6,dF c7];exact⟨_,_,rfl,rfl,by decide⟩
 rw[if_neg (show ¬(u.er.partner≠[]∨v.er.partner≠[])from fun h=>h.elim (fun h=>h c6) (fun h=>h c7)),dT c6,dT c7]
 exact⟨_,_,rfl,rfl,hok⟩
theorem qm4 (b:GB r)(w:WF r.er){kk:List UInt8}(hkk:kk=qd7∨kk=qda∨kk=qbz∨kk=qcw∨kk=qb6∨kk=qdk)(hk:e.kind=kk)(hc:yx e.er=0):qcg (f127 r e) (z8 (j6 .i64) r.er e.er):=by
 rw[qbb hk (by rcases hkk with rfl|rfl|rfl|rfl|rfl|rfl<;>decide) (by rcases hkk with rfl|rfl|rfl|rfl|rfl|rfl<;>decide),if_neg (by rcases hkk with rfl|rfl|rfl|rfl|rfl|rfl<;>decide)]
 obtain⟨n0,t,hn⟩:∃n0 t,e.names.getD []=n0::t:=by
  rcases hkk with rfl|rfl|rfl|rfl|rfl|rfl
  ·obtain⟨a,c,h⟩:=qch (qaz (c:=2) hk rfl hc).1;exact⟨_,_,h⟩
  ·obtain⟨a,c,h⟩:=qch (qaz (c:=1) hk rfl hc).1;exact⟨_,_,h⟩
  ·obtain⟨a,c,h⟩:=qch (qaz (c:=2) hk rfl hc).1;exact⟨_,_,h⟩
  ·obtain⟨a,h⟩:=qdf (qaz (c:=1) hk rfl hc).1;exact⟨_,_,h⟩
  ·obtain⟨a,h⟩:=qdf (qaz (c:=1) hk rfl hc).1;exact⟨_,_,h⟩
  ·obtain⟨a,h⟩:=qdf (qaz (c:=1) hk rfl hc).1;exact⟨_,_,h⟩
 cases hp:km r.er n0 with
 |none=>
  unfold qe2
  rw[nm0 hn,hp]
  unfold f127
  simp only[qcl hn,jw,qwu (yg b.U),qja,hp]
  exact⟨_,_,rfl,rfl,by decide⟩
 |some k=>
 obtain⟨u,h1,_,h3⟩:=qfo hp
 obtain⟨D,v,o⟩:=qj9 b w h1
 rw[onU (nm0 hn) hp h3]
 unfold f127
 simp only[qcl hn,jw,qwu (yg b.U),qja,hp,Option.isSome_some,Bool.not_true,cond_false,qat,z6 h1]
 rcases hkk with rfl|rfl|rfl|rfl|rfl|rfl
 ·obtain⟨g1,g2⟩:=qaz (a:=2) (c:=2) hk rfl hc
  obtain⟨a,c,hn'⟩:=qch g1
  obtain⟨v0,v1,hv⟩:=qch g2
  rw[if_pos hk,show decide (e.kind=([117,115,101]:List UInt8))=true from dT hk]
  obtain⟨r',cc,q1,q2⟩:=j1g b w hk hc hn' hv h1
  simp only[cT,q1]
  exact⟨_,_,rfl,q2⟩
 ·obtain⟨g1,g2⟩:=qaz (a:=2) (c:=1) hk rfl hc
  obtain⟨a,c,hn'⟩:=qch g1
  rw[if_neg (show ¬e.kind=qd7 by rw[hk];decide),if_pos hk,show decide (e.kind=([117,115,101]:List UInt8))=false from dF (by rw[hk];decide),show decide (e.kind=([112,97,105,114]:List UInt8))=true from dT hk]
  obtain⟨r',cc,q1,q2⟩:=jqb b hk hc hn' h1
  simp only[cT,cond_false,q1]
  exact⟨_,_,rfl,q2⟩
 ·obtain⟨g1,g2⟩:=qaz (a:=2) (c:=2) hk rfl hc
  obtain⟨a,n1,hn'⟩:=qch g1
  obtain⟨v0,v1,hv⟩:=qch g2
  rw[if_neg (show ¬e.kind=qd7 by rw[hk];decide),if_neg (show ¬e.kind=qda by rw[hk];decide),if_pos hk,show decide (e.kind=([117,115,101]:List UInt8))=false from dF (by rw[hk];decide),show decide (e.kind=([112,97,105,114]:List UInt8))=false from dF (by rw[hk];decide),show decide (e.kind=([109,101,97,115,117,114,101]:List UInt8))=true from dT hk,nm1 hn',vl1 hv,o.pap]
  simp only[cT,cond_false]
  by_cases hs:u.shipped=true
  ·rw[hs];exact⟨_,_,rfl,rfl,by decide⟩
  have hs':u.shipped=false:=by simpa using hs
  have L:=qn0 (D.tests.getD []) (qi0 r e (k:Int) u D) (fun i (c:Bool)=>(c,(i:Int))) (fun c y=>if c then true else isT n1 y) (fun c=>(c,((D.tests.getD []).length:Int))) false (fun c=>by unfold qi0;simp only[ku];rfl)
   (fun i c y hy hi=>by
    unfold qi0
    simp only[qal hi,cT,jw,z6 hy,qcc hn']
    rw[qaj (by have:=o.tests;unfold BB at this;omega)]
    cases c<;>rfl)
  rw[q3r,Bool.false_or]at L
  have L':itO (qi0 r e (k:Int) u D) (false,0)=some ((D.tests.getD []).any (isT n1),((D.tests.getD []).length:Int)):=L
  rw[if_neg hs]
  simp only[q3b hs',o.doc',L',qcc hn',qcc hv,qfr (yg o.results)]
  rw[hs',qie (o:=some (u.results.getD [])) (by have:=qeb o.results;simp only[Option.getD_some,List.length_singleton];omega) (by simp)]
  simp only[cond_false,Option.any_some,show D.er.tests=D.tests.getD []from rfl]
  cases (D.tests.getD []).any (isT n1)with
  |false=>exact⟨_,_,rfl,rfl,by decide⟩
  |true=>
   have f9:=qia (r:=r) (x:={ u with results:=some (u.results.getD []++[⟨n1,u.version,v1⟩]) }) b.U (qgk h1)
   have hok:({ r with units:=some ((r.units.getD []).set k { u with results:=some (u.results.getD []++[⟨n1,u.version,v1⟩]) }) }:qc).er=setUnit r.er k { u.er with results:=u.results.getD []++[⟨n1,u.version,v1⟩] }:=by rw[qdl rfl];rfl
   rw[hs']at f9
   by_cases h2:64≤(u.results.getD []).length
   ·simp only[show decide (64≤((u.results.getD []).length:Int))=true from dT (by omega),if_pos h2,Bool.not_true,Bool.false_eq_true,if_false,cT]
    exact⟨_,_,rfl,rfl,by decide⟩
   ·simp only[show decide (64≤((u.results.getD []).length:Int))=false from dF (by omega),if_neg h2,Bool.not_true,Bool.false_eq_true,if_false,cT,cond_false,Option.getD_some,f9]
    rw[hs']at hok
    exact⟨_,_,rfl,rfl,hok⟩
 ·rw[if_neg (show ¬e.kind=qd7 by rw[hk];decide),if_neg (show ¬e.kind=qda by rw[hk];decide),if_neg (show ¬e.kind=qbz by rw[hk];decide),if_pos hk,show decide (e.kind=([117,115,101]:List UInt8))=false from dF (by rw[hk];decide),show decide (e.kind=([112,97,105,114]:List UInt8))=false from dF (by rw[hk];decide),show decide (e.kind=([109,101,97,115,117,114,101]:List UInt8))=false from dF (by rw[hk];decide),show decide (e.kind=([117,112,100,97,116,101]:List UInt8))=true from dT hk,o.new]
  simp only[cT,cond_false]
  by_cases hs:u.shipped=true
  ·rw[hs];exact⟨_,_,rfl,rfl,by decide⟩
  have hs':u.shipped=false:=by simpa using hs
  rw[if_neg hs]
  have f9:=qia (r:=r) (x:={ u with version:=v }) b.U (qgk h1)
  have hok:({ r with units:=some ((r.units.getD []).set k { u with version:=v }) }:qc).er=setUnit r.er k { u.er with version:=v }:=by rw[qdl rfl];rfl
  rw[hs']at f9 hok
  simp only[q3b hs',(qlp (yg b.P) o.new).2,f9]
  rw[hs']
  simp only[cond_false]
  by_cases h:u.version=v
  ·rw[dT h,if_pos h];exact⟨_,_,rfl,rfl,by decide⟩
  ·rw[dF h,if_neg h];exact⟨_,_,rfl,rfl,hok⟩
 ·rw[if_neg (show ¬e.kind=qd7 by rw[hk];decide),if_neg (show ¬e.kind=qda by rw[hk];decide),if_neg (show ¬e.kind=qbz by rw[hk];decide),if_neg (show ¬e.kind=qcw by rw[hk];decide),if_pos hk,show decide (e.kind=([117,115,101]:List UInt8))=false from dF (by rw[hk];decide),show decide (e.kind=([112,97,105,114]:List UInt8))=false from dF (by rw[hk];decide),show decide (e.kind=([109,101,97,115,117,114,101]:List UInt8))=false from dF (by rw[hk];decide),show decide (e.kind=([117,112,100,97,116,101]:List UInt8))=false from dF (by rw[hk];decide),show decide (e.kind=([115,104,105,112]:List UInt8))=true from dT hk]
  have g2:=jpc (yg b.P) o.new (yg b.L) (yg o.uses) o.lots o.doc' o.pap (yg o.needs) (yg o.results) (yg o.tests)
  have f9:=qia (r:=r) (x:={ u with shipped:=true }) b.U (qgk h1)
  simp only[cT,cond_false,g2,f9]
  by_cases h:qgn (j6 .i64) r.er u.er=0
  ·rw[dT h,if_neg (fun hh=>hh h)];exact⟨_,_,rfl,rfl,qdl rfl⟩
  ·rw[dF h,if_pos h];exact⟨_,_,rfl,rfl,h⟩
 ·rw[if_neg (show ¬e.kind=qd7 by rw[hk];decide),if_neg (show ¬e.kind=qda by rw[hk];decide),if_neg (show ¬e.kind=qbz by rw[hk];decide),if_neg (show ¬e.kind=qcw by rw[hk];decide),if_neg (show ¬e.kind=qb6 by rw[hk];decide),show decide (e.kind=([117,115,101]:List UInt8))=false from dF (by rw[hk];decide),show decide (e.kind=([112,97,105,114]:List UInt8))=false from dF (by rw[hk];decide),show decide (e.kind=([109,101,97,115,117,114,101]:List UInt8))=false from dF (by rw[hk];decide),show decide (e.kind=([117,112,100,97,116,101]:List UInt8))=false from dF (by rw[hk];decide),show decide (e.kind=([115,104,105,112]:List UInt8))=false from dF (by rw[hk];decide)]
  have f9:=qia (r:=r) (x:={ u with complaints:=j6 .i64 (u.complaints+1) }) b.U (qgk h1)
  have hok:({ r with units:=some ((r.units.getD []).set k { u with complaints:=j6 .i64 (u.complaints+1) }) }:qc).er=setUnit r.er k { u.er with complaints:=j6 .i64 (u.complaints+1) }:=by rw[qdl rfl];rfl
  simp only[cond_false]
  by_cases hs:u.shipped=true
  ·rw[hs]at f9 hok ⊢
   simp only[f9]
   exact⟨_,_,rfl,rfl,hok⟩
  ·have hs':u.shipped=false:=by simpa using hs
   rw[hs']
   exact⟨_,_,rfl,rfl,by decide⟩
end Go.Z
