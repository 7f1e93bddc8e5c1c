/- Chapter 10, plain. -/
import Derived.Test.YtfopaakmgogpiaaGreatDoorE9
import Derived.Test.YtfopaakmgogpiaaGreatDoorW12
set_option linter.unusedVariables false
set_option linter.unusedSimpArgs false
set_option maxRecDepth 100000
set_option maxHeartbeats 4000000
namespace Go.Z
open Go Go.Abs Go.W
variable {r:qc}{e:ql}
theorem q2o {a lo hi:Int}:f59 a lo hi=some (decide (a<lo∨hi<a)):=by
 unfold f59
 by_cases h:a<lo
 ·simp[h]
 ·simp[h]
theorem qke {o:Option Nat}:decide (ixI o<0)=!o.isSome:=by
 cases o with
 |none=>rfl
 |some k=>exact dF (by show ¬(k:Int)<0;omega)
theorem jsu (b:GB r)(hk:e.kind=qe2)(hc:kf e.er=0):qcv (f124 r e) (yf (j8 .i64) r.er e.er):=by
 obtain⟨h1,h2⟩:=qbe hk (show qbb qe2=some (2,2)from rfl) hc
 obtain⟨n0,n1,hn⟩:=qc0 h1
 obtain⟨v0,v1,hv⟩:=qc0 h2
 unfold yf qht
 rw[show e.er.kind=qe2 from hk,if_pos (by decide),if_pos rfl,nm0 hn,nm1 hn,vl1 hv,qhc]
 unfold f124
 simp only[qdb hn,qcy hn,qcy hv,jy,qrx (yn b.L),qeq,q2o,qgk (yn b.L)]
 rw[show decide (e.kind=([108,111,116]:List UInt8))=true from dT hk,qjb (o:=some (r.lots.getD [])) (by have:=qe1 b.L;simp only[Option.getD_some,List.length_singleton];omega) (by simp)]
 simp only[cT]
 cases (qaj r.er n0).isSome with
 |true=>exact⟨_,_,rfl,rfl,by decide⟩
 |false=>
  by_cases h1:v1<1∨10000<v1
  ·simp only[dT h1,if_pos h1]
   exact⟨_,_,rfl,rfl,by decide⟩
  ·simp only[dF h1,if_neg h1]
   by_cases h2:64≤(r.lots.getD []).length
   ·simp only[show decide (64≤((r.lots.getD []).length:Int))=true from dT (by omega),qhc,if_pos h2,Bool.false_eq_true,if_false]
    exact⟨_,_,rfl,rfl,by decide⟩
   ·simp only[show decide (64≤((r.lots.getD []).length:Int))=false from dF (by omega),qhc,if_neg h2,Bool.false_eq_true,if_false]
    exact⟨_,_,rfl,rfl,rfl⟩
theorem jbw (b:GB r)(hk:e.kind=qbs)(hc:kf e.er=0):qcv (f124 r e) (yf (j8 .i64) r.er e.er):=by
 obtain⟨h1,h2⟩:=qbe hk (show qbb qbs=some (1,1)from rfl) hc
 obtain⟨n0,hn⟩:=qd7 h1
 unfold yf qht
 rw[show e.er.kind=qbs from hk,if_pos (by decide),if_neg (by decide),if_pos rfl,nm0 hn]
 have hl:r.er.products.length=(r.products.getD []).length:=by rw[qgu,List.length_map]
 unfold f124
 simp only[qdb hn,jy,ql1 (yn b.P),qeq,qgk (yn b.P),hl]
 rw[show decide (e.kind=([108,111,116]:List UInt8))=false from dF (by rw[hk];decide),show decide (e.kind=([112,114,111,100,117,99,116]:List UInt8))=true from dT hk,qjb (o:=some (r.products.getD [])) (by have:=qe1 b.P;simp only[Option.getD_some,List.length_singleton];omega) (by simp)]
 simp only[cT,cF]
 cases (qak r.er n0).isSome with
 |true=>exact⟨_,_,rfl,rfl,by decide⟩
 |false=>
  by_cases h2:16≤(r.products.getD []).length
  ·simp only[show decide (16≤((r.products.getD []).length:Int))=true from dT (by omega),if_pos h2]
   exact⟨_,_,rfl,rfl,by decide⟩
  ·simp only[show decide (16≤((r.products.getD []).length:Int))=false from dF (by omega),if_neg h2]
   exact⟨_,_,rfl,rfl,qw9 rfl⟩
theorem jio (b:GB r)(hk:e.kind=qdy)(hc:kf e.er=0):qcv (f124 r e) (yf (j8 .i64) r.er e.er):=by
 obtain⟨h1,h2⟩:=qbe hk (show qbb qdy=some (2,1)from rfl) hc
 obtain⟨n0,n1,hn⟩:=qc0 h1
 unfold yf qht
 rw[show e.er.kind=qdy from hk,if_pos (by decide),if_neg (by decide),if_neg (by decide),nm0 hn,nm1 hn]
 have hl:r.er.units.length=(r.units.getD []).length:=by rw[qh2,List.length_map]
 unfold f124
 simp only[qdb hn,qcy hn,jy,ql1 (yn b.P),qyo (yn b.U),qeq,qke,qgk (yn b.U),hl]
 rw[show decide (e.kind=([108,111,116]:List UInt8))=false from dF (by rw[hk];decide),show decide (e.kind=([112,114,111,100,117,99,116]:List UInt8))=false from dF (by rw[hk];decide)]
 simp only[cF]
 unfold qdm
 cases hp:qak r.er n1 with
 |none=>exact⟨_,_,rfl,rfl,by decide⟩
 |some k=>
  obtain⟨p,g1,_,g3⟩:=qor hp
  have hd:p.er.docs.isEmpty=decide (((p.docs.getD []).length:Int)=0):=by
   show((p.docs.getD []).map qq.er).isEmpty=_
   cases p.docs.getD []with
   |nil=>rfl
   |cons x l=>simp;omega
  have hd2:p.er.docs.length=(p.docs.getD []).length:=by show((p.docs.getD []).map qq.er).length=_;rw[List.length_map]
  simp only[Option.isSome_some,Bool.not_true,cF,qa6,ye g1,Option.bind_some,g3,hd,hd2]
  rw[qjb (o:=some (r.units.getD [])) (by have:=qe1 b.U;simp only[Option.getD_some,List.length_singleton];omega) (by simp)]
  cases (qab r.er n0).isSome with
  |true=>exact⟨_,_,rfl,rfl,by decide⟩
  |false=>
   cases decide (((p.docs.getD []).length:Int)=0)with
   |true=>exact⟨_,_,rfl,rfl,by decide⟩
   |false=>
    by_cases h2:256≤(r.units.getD []).length
    ·simp only[show decide (256≤((r.units.getD []).length:Int))=true from dT (by omega),if_pos h2]
     exact⟨_,_,rfl,rfl,by decide⟩
    ·simp only[show decide (256≤((r.units.getD []).length:Int))=false from dF (by omega),if_neg h2]
     exact⟨_,_,rfl,rfl,qwg rfl⟩
theorem q51 (b:GB r){k:Nat}{x:qj}(hk:k<(r.lots.getD []).length):f206 r (k:Int) x=some { r with lots:=some ((r.lots.getD []).set k x) }:=by
 unfold f206;rw[q10 (yn b.L) hk];rfl
theorem jhe (b:GB r){k:Nat}{x:qk}(hk:k<(r.products.getD []).length):f205 r (k:Int) x=some { r with products:=some ((r.products.getD []).set k x) }:=by
 unfold f205;rw[q10 (yn b.P) hk];rfl
theorem qjt (hb:(r.units.getD []).length≤BB){k:Nat}{x:qe}(hk:k<(r.units.getD []).length):f209 r (k:Int) x=some { r with units:=some ((r.units.getD []).set k x) }:=by
 unfold f209;rw[q10 (yn hb) hk];rfl
theorem qhm {α:Type}{l:List α}{k:Nat}{x:α}(h:l[k]?=some x):k<l.length:=(List.getElem?_eq_some_iff.1 h).1
theorem q9t (b:GB r)(hold:Bool)(hk:e.kind=if hold then qen else qgs)(hc:kf e.er=0):qcv (f126 r e) (yf (j8 .i64) r.er e.er):=by
 obtain⟨h1,h2⟩:=qbe (a:=1) (c:=1) hk (by cases hold<;>rfl) hc
 obtain⟨n0,hn⟩:=qd7 h1
 rw[qbr hk (by cases hold<;>decide) (by cases hold<;>decide),if_pos (by cases hold<;>decide)]
 unfold qnq
 rw[nm0 hn]
 unfold f126
 simp only[qdb hn,jy,qrx (yn b.L),qke]
 cases hp:qaj r.er n0 with
 |none=>exact⟨_,_,rfl,rfl,by decide⟩
 |some k=>
  obtain⟨x,g1,_⟩:=qxp hp
  simp only[Option.isSome_some,Bool.not_true,cF,qa6,ye g1,qhc,g1,q51 b (qhm g1),show e.er.kind=e.kind from rfl]
  cases hold with
  |true=>
   have hk:e.kind=qen:=hk
   rw[show decide (e.kind=([104,111,108,100]:List UInt8))=true from dT hk,show decide (e.kind=([102,114,101,101]:List UInt8))=false from dF (by rw[hk];decide),if_pos hk]
   by_cases hh:x.held=true
   ·simp only[hh,cT,if_true];exact⟨_,_,rfl,rfl,by decide⟩
   ·rw[Bool.not_eq_true]at hh
    simp only[hh,cT,cF,Bool.false_eq_true,if_false];exact⟨_,_,rfl,rfl,qnj rfl⟩
  |false=>
   have hk:e.kind=qgs:=hk
   rw[show decide (e.kind=([104,111,108,100]:List UInt8))=false from dF (by rw[hk];decide),show decide (e.kind=([102,114,101,101]:List UInt8))=true from dT hk,if_neg (by rw[hk];decide)]
   by_cases hh:x.held=true
   ·simp only[hh,cT,cF,Bool.not_true,Bool.false_eq_true,if_false];exact⟨_,_,rfl,rfl,qnj rfl⟩
   ·rw[Bool.not_eq_true]at hh
    simp only[hh,cT,cF,Bool.not_false,if_true];exact⟨_,_,rfl,rfl,by decide⟩
theorem q4j {α:Type}{l:List α}{p:α→Bool}{x:α}(h:l.length≤16):16<(qca p x l).length↔(!(l.any p))=true∧16≤l.length:=by
 unfold qca
 rw[any_findIdx]
 cases hi:l.findIdx? p with
 |some i=>
  simp only[List.length_set]
  constructor
  ·intro h2;omega
  ·rintro ⟨h2,_⟩;cases h2
 |none=>
  simp only[List.length_append,List.length_singleton]
  constructor
  ·intro h2;exact⟨rfl,by omega⟩
  ·rintro ⟨_,h2⟩;omega
theorem q35 (b:GB r)(w:WF r.er){kk:List UInt8}(hkk:kk=qdn∨kk=qd4∨kk=qeb)(hk:e.kind=kk)(hc:kf e.er=0)(hv0:∀v∈e.values.getD [],0≤v):qcv (f125 r e) (yf (j8 .i64) r.er e.er):=by
 have hR:yf (j8 .i64) r.er e.er=qcs r.er e.er:=by
  unfold yf
  rw[show e.er.kind=kk from hk,if_neg (by rcases hkk with rfl|rfl|rfl<;>decide),if_pos hkk]
 rw[hR]
 obtain⟨n0,t,hn⟩:∃n0 t,e.names.getD []=n0::t:=by
  rcases hkk with rfl|rfl|rfl
  ·obtain⟨a,c,h⟩:=qc0 (qbe (c:=2) hk rfl hc).1;exact⟨_,_,h⟩
  ·obtain⟨a,c,h⟩:=qc0 (qbe (c:=3) hk rfl hc).1;exact⟨_,_,h⟩
  ·obtain⟨a,h⟩:=qd7 (qbe (c:=1) hk rfl hc).1;exact⟨_,_,h⟩
 cases hp:qak r.er n0 with
 |none=>
  unfold qcs
  rw[nm0 hn,hp]
  unfold f125
  simp only[qdb hn,jy,ql1 (yn b.P),qke,hp]
  exact⟨_,_,rfl,rfl,by decide⟩
 |some k=>
 obtain⟨p,g1,_,g3⟩:=qor hp
 have hm:=List.mem_of_getElem? g1
 have hD:=b.D p hm
 have hpe:p.er∈r.er.products:=by rw[qgu];exact List.mem_map_of_mem hm
 have hkn:=w.needs _ hpe
 have hkt:=w.tests _ hpe
 have hkn1:qcp (·.k) (p.dn.getD []):=hkn.1
 have hkn2:(p.dn.getD []).length≤16:=hkn.2
 have hkt1:qcp (·.k) (p.dt.getD []):=hkt.1
 have hkt2:(p.dt.getD []).length≤16:=hkt.2
 rw[onP (nm0 hn) hp g3]
 unfold f125
 simp only[qdb hn,jy,ql1 (yn b.P),qke,hp,Option.isSome_some,Bool.not_true,cF,qa6,ye g1,jhe b (qhm g1)]
 rcases hkk with rfl|rfl|rfl
 ·obtain⟨h1,h2⟩:=qbe (a:=2) (c:=2) hk rfl hc
  obtain⟨n0',n1,hn'⟩:=qc0 h1
  obtain⟨v0,v1,hv⟩:=qc0 h2
  have h0:0≤v1:=hv0 v1 (by rw[hv];simp)
  obtain⟨v,ww,f1,f2⟩:=jh6 (x:=⟨n1,v1⟩) (qe1 hD.2.1) hkn1 h0
  have f2:v.getD []=qb4 (p.dn.getD []) n1 v1:=f2
  rw[if_pos hk,nm1 hn',vl1 hv]
  simp only[qcy hv,qcy hn',f1,show decide (e.kind=([110,101,101,100]:List UInt8))=true from dT hk,cT]
  by_cases hz:10000<v1
  ·rw[dT hz,if_pos (Or.inr hz)];exact⟨_,_,rfl,rfl,by decide⟩
  ·rw[dF hz,if_neg (show ¬(v1<0∨10000<v1) by omega)]
   have hok:({ r with products:=some ((r.products.getD []).set k ⟨p.name,v,p.dt,p.docs⟩) }:qc).er=setProd r.er k { p.er with draft:={ p.er.draft with needs:=qb4 (p.dn.getD []) n1 v1 } }:=by
    rw[qg4 rfl]
    congr 1
    simp only[qk.er,f2]
   have hlen:decide (16<((v.getD []).length:Int))=decide (16<(qb4 (p.dn.getD []) n1 v1).length):=by
    rw[f2]
    by_cases h:16<(qb4 (p.dn.getD []) n1 v1).length
    ·rw[dT h];exact dT (by omega)
    ·rw[dF h];exact dF (by omega)
   have hcond:16<(qb4 (p.dn.getD []) n1 v1).length↔(0<v1∧(!(p.dn.getD []).any (isK n1))=true∧16≤(p.dn.getD []).length):=by
    unfold qb4
    by_cases hz0:v1=0
    ·rw[if_pos hz0]
     have:=List.length_filter_le (fun x=>!isK n1 x) (p.dn.getD [])
     constructor
     ·intro h;omega
     ·rintro ⟨h,_⟩;omega
    ·rw[if_neg hz0,q4j hkn2]
     constructor
     ·intro h;exact⟨by omega,h⟩
     ·exact fun h=>h.2
   simp only[cF,hlen]
   by_cases h16:16<(qb4 (p.dn.getD []) n1 v1).length
   ·rw[dT h16,if_pos (hcond.1 h16)]
    cases ww<;>exact⟨_,_,rfl,rfl,by decide⟩
   ·rw[dF h16,if_neg (fun h=>h16 (hcond.2 h))]
    cases ww<;>exact⟨_,_,rfl,rfl,hok⟩
 ·obtain⟨h1,h2⟩:=qbe (a:=2) (c:=3) hk rfl hc
  obtain⟨n0',n1,hn'⟩:=qc0 h1
  obtain⟨v0,v1,v2,hv⟩:=jlm h2
  obtain⟨v,ww,f1,f2⟩:=jiu (x:=⟨n1,v1,v2⟩) (qe1 hD.2.2.1) hkt1
  have f2:v.getD []=qca (isT n1) ⟨n1,v1,v2⟩ (p.dt.getD []):=f2
  rw[if_neg (show ¬e.kind=qdn by rw[hk];decide),if_pos hk,nm1 hn',vl1 hv,vl2 hv]
  simp only[qcy hv,jn1 hv,qcy hn',f1,show decide (e.kind=([110,101,101,100]:List UInt8))=false from dF (by rw[hk];decide),show decide (e.kind=([116,101,115,116]:List UInt8))=true from dT hk,cT,cF]
  by_cases hz:v2<v1
  ·rw[dT hz,if_pos hz];exact⟨_,_,rfl,rfl,by decide⟩
  ·rw[dF hz,if_neg hz]
   have hok:({ r with products:=some ((r.products.getD []).set k ⟨p.name,p.dn,v,p.docs⟩) }:qc).er=setProd r.er k { p.er with draft:={ p.er.draft with tests:=qca (isT n1) ⟨n1,v1,v2⟩ (p.dt.getD []) } }:=by
    rw[qg4 rfl]
    congr 1
    simp only[qk.er,f2]
   have hlen:decide (16<((v.getD []).length:Int))=decide (16<(qca (isT n1) ⟨n1,v1,v2⟩ (p.dt.getD [])).length):=by
    rw[f2]
    by_cases h:16<(qca (isT n1) ⟨n1,v1,v2⟩ (p.dt.getD [])).length
    ·rw[dT h];exact dT (by omega)
    ·rw[dF h];exact dF (by omega)
   have hcond:=q4j (p:=isT n1) (x:=(⟨n1,v1,v2⟩:qi)) hkt2
   simp only[cF,hlen]
   by_cases h16:16<(qca (isT n1) ⟨n1,v1,v2⟩ (p.dt.getD [])).length
   ·rw[dT h16,if_pos (hcond.1 h16)]
    cases ww<;>exact⟨_,_,rfl,rfl,by decide⟩
   ·rw[dF h16,if_neg (fun h=>h16 (hcond.2 h))]
    cases ww<;>exact⟨_,_,rfl,rfl,hok⟩
 ·rw[if_neg (show ¬e.kind=qdn by rw[hk];decide),if_neg (show ¬e.kind=qd4 by rw[hk];decide)]
  simp only[show decide (e.kind=([110,101,101,100]:List UInt8))=false from dF (by rw[hk];decide),show decide (e.kind=([116,101,115,116]:List UInt8))=false from dF (by rw[hk];decide),cF,qgk (yn hD.1)]
  rw[qjb (o:=some (p.docs.getD [])) (by have:=qe1 hD.1;simp only[Option.getD_some,List.length_singleton];omega) (by simp)]
  have hd2:p.er.docs.length=(p.docs.getD []).length:=by show((p.docs.getD []).map qq.er).length=_;rw[List.length_map]
  have hd:(p.dn.getD []).isEmpty=decide (((p.dn.getD []).length:Int)=0):=by
   cases p.dn.getD []with
   |nil=>rfl
   |cons x l=>simp;omega
  have hok:({ r with products:=some ((r.products.getD []).set k ⟨p.name,p.dn,p.dt,some (p.docs.getD []++[⟨p.dn,p.dt⟩])⟩) }:qc).er=setProd r.er k { p.er with docs:=p.er.docs++[p.er.draft] }:=by
   rw[qg4 rfl]
   congr 1
   simp only[qk.er,Option.getD_some,List.map_append,List.map_cons,List.map_nil]
   rfl
  simp only[hd,hd2]
  cases decide (((p.dn.getD []).length:Int)=0)with
  |true=>exact⟨_,_,rfl,rfl,by decide⟩
  |false=>
   by_cases h2:100≤(p.docs.getD []).length
   ·simp only[show decide (100≤((p.docs.getD []).length:Int))=true from dT (by omega),if_pos h2,Bool.false_eq_true,if_false]
    exact⟨_,_,rfl,rfl,by decide⟩
   ·simp only[show decide (100≤((p.docs.getD []).length:Int))=false from dF (by omega),if_neg h2,Bool.false_eq_true,if_false]
    exact⟨_,_,rfl,rfl,hok⟩
end Go.Z
namespace Go.Z
open Go Go.Abs Go.W
variable {r:qc}{e:ql}
theorem q13 {α:Type}(p:α→Bool):∀(l:List α) (c:Bool),l.foldl (fun c x=>if c then true else p x) c=(c||l.any p)
 | [],c=>by simp
 |x::l,c=>by
  rw[List.foldl_cons,q13 p l,List.any_cons]
  cases c<;>simp
theorem q3q {u:qe}(h:u.shipped=false):(⟨u.name,u.product,u.version,u.uses,u.results,u.partner,false,u.complaints⟩:qe)=u:=by cases u;simp only at h;rw[h]
theorem ju5 (b:GB r)(w:WF r.er)(hk:e.kind=qe4)(hc:kf e.er=0){k:Nat}{u:qe}{n0 n1:List UInt8}{v0 v1:Int}(hn:e.names.getD []=[n0,n1])(hv:e.values.getD []=[v0,v1])(h1:(r.units.getD [])[k]?=some u):qcv (f207 r (k:Int) e) (qrh (j8 .i64) r.er k u.er e.er):=by
 obtain⟨D,v,o⟩:=ql0 b w h1
 unfold qrh
 rw[nm1 hn,vl1 hv,o.pap]
 unfold f207
 simp only[ye h1,qcy hn,qcy hv,jy,qrx (yn b.L),qke]
 cases hq:qaj r.er n1 with
 |none=>exact⟨_,_,rfl,rfl,by decide⟩
 |some j=>
 obtain⟨x,h4,_⟩:=qxp hq
 simp only[Option.isSome_some,Bool.not_true,cF,qa6,ye h4,qhc,h4]
 by_cases hs:u.shipped=true
 ·rw[hs,if_pos (show u.er.shipped=true from hs)];exact⟨_,_,rfl,rfl,by decide⟩
 rw[if_neg (show ¬u.er.shipped=true from hs)]
 rw[Bool.not_eq_true]at hs
 simp only[q3q hs,o.doc']
 rw[hs]
 simp only[cF]
 by_cases hz:v1=0
 ·rw[dT hz,if_pos hz];exact⟨_,_,rfl,rfl,by decide⟩
 rw[dF hz,if_neg hz]
 simp only[cF]
 by_cases hh:x.held=true
 ·rw[hh];exact⟨_,_,rfl,rfl,by decide⟩
 have hh':x.held=false:=by simpa using hh
 have L:=qp2 (D.needs.getD []) (qk0 r (k:Int) e u (j:Int) x D) (fun i (c:Bool)=>(c,(i:Int))) (fun c y=>if c then true else isK x.kind y) (fun c=>(c,((D.needs.getD []).length:Int))) false (fun c=>by unfold qk0;simp only[qag];rfl)
  (fun i c y hy hi=>by
   unfold qk0
   simp only[qaz hi,cT,jy,ye hy]
   rw[qax (by have:=o.needs;unfold BB at this;omega)]
   cases c<;>rfl)
 rw[q13,Bool.false_or]at L
 have L':itO (qk0 r (k:Int) e u (j:Int) x D) (false,0)=some ((D.needs.getD []).any (isK x.kind),((D.needs.getD []).length:Int)):=L
 rw[if_neg hh]
 simp only[hh',cF,L',Option.any_some,show D.er.needs=D.needs.getD []from rfl]
 cases (D.needs.getD []).any (isK x.kind)with
 |false=>exact⟨_,_,rfl,rfl,by decide⟩
 |true=>
 simp only[cT,Bool.not_true,Bool.false_eq_true,if_false]
 by_cases hl:x.left<v1
 ·rw[dT hl,if_pos hl];exact⟨_,_,rfl,rfl,by decide⟩
 rw[dF hl,if_neg hl]
 obtain⟨q,wq,q1,q2⟩:=jin (o:=u.uses) (k:=x.name) (n:=v1) (qe1 o.uses) o.keyed
 rw[q1]
 simp only[cF,q51 b (qhm h4)]
 rw[show(⟨u.name,u.product,u.version,q,u.results,u.partner,false,u.complaints⟩:qe)={ u with uses:=q } by rw[←hs]]
 have f9:=qjt (r:={ r with lots:=some ((r.lots.getD []).set j ⟨x.name,x.kind,x.count,j8 .i64 (x.left-v1),false⟩) }) (x:={ u with uses:=q }) b.U (qhm h1)
 have hok:({ r with lots:=some ((r.lots.getD []).set j ⟨x.name,x.kind,x.count,j8 .i64 (x.left-v1),false⟩),units:=some ((r.units.getD []).set k { u with uses:=q }) }:qc).er=setUnit (setLot r.er j ⟨x.name,x.kind,x.count,j8 .i64 (x.left-v1),false⟩) k { u.er with uses:=qhk (j8 .i64) u.er.uses x.name v1 }:=by
  simp only[qc.er,setUnit,setLot,Option.getD_some,List.map_set]
  congr 2
  simp only[qe.er,q2]
 simp only[f9]
 cases wq<;>exact⟨_,_,rfl,rfl,hok⟩
theorem jn5 (b:GB r)(hk:e.kind=qd1)(hc:kf e.er=0){k:Nat}{u:qe}{n0 n1:List UInt8}(hn:e.names.getD []=[n0,n1])(h1:(r.units.getD [])[k]?=some u):qcv (f208 r (k:Int) e) (qmm r.er k u.er e.er):=by
 unfold qmm
 rw[nm1 hn]
 unfold f208
 simp only[ye h1,qcy hn,jy,qyo (yn b.U),qke]
 cases hq:qab r.er n1 with
 |none=>exact⟨_,_,rfl,rfl,by decide⟩
 |some j=>
 obtain⟨v,h4,_,h5⟩:=qgx hq
 rw[qa6]
 simp only[Option.isSome_some,Bool.not_true,cF,ye h4,h5]
 by_cases c1:k=j
 ·rw[if_pos c1,@dT ((j:Int)=(k:Int)) _ (by omega)];exact⟨_,_,rfl,rfl,by decide⟩
 rw[if_neg c1,@dF ((j:Int)=(k:Int)) _ (by omega)]
 simp only[cF]
 by_cases c2:u.product=v.product
 case neg=>rw[dF c2,if_pos (show u.er.product≠v.er.product∨u.er.version≠v.er.version from Or.inl c2)];exact⟨_,_,rfl,rfl,by decide⟩
 by_cases c3:u.version=v.version
 case neg=>rw[dT c2,dF c3,if_pos (show u.er.product≠v.er.product∨u.er.version≠v.er.version from Or.inr c3)];exact⟨_,_,rfl,rfl,by decide⟩
 rw[if_neg (show ¬(u.er.product≠v.er.product∨u.er.version≠v.er.version)from fun h=>h.elim (fun h=>h c2) (fun h=>h c3)),dT c2,dT c3]
 simp only[cT]
 by_cases c4:u.shipped=true
 ·rw[if_pos (show u.er.shipped=true∨v.er.shipped=true from Or.inl c4),c4];exact⟨_,_,rfl,rfl,by decide⟩
 by_cases c5:v.shipped=true
 ·rw[if_pos (show u.er.shipped=true∨v.er.shipped=true from Or.inr c5)]
  have c4':u.shipped=false:=by simpa using c4
  rw[c4',c5];exact⟨_,_,rfl,rfl,by decide⟩
 have c4':u.shipped=false:=by simpa using c4
 have c5':v.shipped=false:=by simpa using c5
 rw[if_neg (show ¬(u.er.shipped=true∨v.er.shipped=true)from fun h=>h.elim c4 c5)]
 have f1:=qjt (r:=r) (x:={ u with partner:=v.name }) b.U (qhm h1)
 have f2:=qjt (r:={ r with units:=some ((r.units.getD []).set k { u with partner:=v.name }) }) (k:=j) (x:={ v with partner:=u.name }) (by rw[Option.getD_some,List.length_set];exact b.U) (by rw[Option.getD_some,List.length_set];exact qhm h4)
 have hok:({ r with units:=some (((r.units.getD []).set k { u with partner:=v.name }).set j { v with partner:=u.name }) }:qc).er=setUnit (setUnit r.er k { u.er with partner:=v.er.name }) j { v.er with partner:=u.er.name }:=by
  simp only[qc.er,setUnit,Option.getD_some,List.map_set]
  rfl
 rw[show(⟨u.name,u.product,u.version,u.uses,u.results,v.name,false,u.complaints⟩:qe)={ u with partner:=v.name } by rw[←c4'],show(⟨v.name,v.product,v.version,v.uses,v.results,u.name,false,v.complaints⟩:qe)={ v with partner:=u.name } by rw[←c5']]
 simp only[f1,f2]
 rw[c4',c5']at hok ⊢
 simp only[cF]
 by_cases c6:u.partner=[]
 case neg=>rw[if_pos (show u.er.partner≠[]∨v.er.partner≠[]from Or.inl c6),dF c6];exact⟨_,_,rfl,rfl,by decide⟩
 by_cases c7:v.partner=[]
 case neg=>rw[if_pos (show u.er.partner≠[]∨v.er.partner≠[]from Or.inr c7),dT c6,dF c7];exact⟨_,_,rfl,rfl,by decide⟩
 rw[if_neg (show ¬(u.er.partner≠[]∨v.er.partner≠[])from fun h=>h.elim (fun h=>h c6) (fun h=>h c7)),dT c6,dT c7]
 exact⟨_,_,rfl,rfl,hok⟩
theorem qo5 (b:GB r)(w:WF r.er){kk:List UInt8}(hkk:kk=qe4∨kk=qd1∨kk=qci∨kk=qdk∨kk=qco∨kk=qep)(hk:e.kind=kk)(hc:kf e.er=0):qcv (f127 r e) (yf (j8 .i64) r.er e.er):=by
 rw[qbr hk (by rcases hkk with rfl|rfl|rfl|rfl|rfl|rfl<;>decide) (by rcases hkk with rfl|rfl|rfl|rfl|rfl|rfl<;>decide),if_neg (by rcases hkk with rfl|rfl|rfl|rfl|rfl|rfl<;>decide)]
 obtain⟨n0,t,hn⟩:∃n0 t,e.names.getD []=n0::t:=by
  rcases hkk with rfl|rfl|rfl|rfl|rfl|rfl
  ·obtain⟨a,c,h⟩:=qc0 (qbe (c:=2) hk rfl hc).1;exact⟨_,_,h⟩
  ·obtain⟨a,c,h⟩:=qc0 (qbe (c:=1) hk rfl hc).1;exact⟨_,_,h⟩
  ·obtain⟨a,c,h⟩:=qc0 (qbe (c:=2) hk rfl hc).1;exact⟨_,_,h⟩
  ·obtain⟨a,h⟩:=qd7 (qbe (c:=1) hk rfl hc).1;exact⟨_,_,h⟩
  ·obtain⟨a,h⟩:=qd7 (qbe (c:=1) hk rfl hc).1;exact⟨_,_,h⟩
  ·obtain⟨a,h⟩:=qd7 (qbe (c:=1) hk rfl hc).1;exact⟨_,_,h⟩
 cases hp:qab r.er n0 with
 |none=>
  unfold qf0
  rw[nm0 hn,hp]
  unfold f127
  simp only[qdb hn,jy,qyo (yn b.U),qke,hp]
  exact⟨_,_,rfl,rfl,by decide⟩
 |some k=>
 obtain⟨u,h1,_,h3⟩:=qgx hp
 obtain⟨D,v,o⟩:=ql0 b w h1
 rw[onU (nm0 hn) hp h3]
 unfold f127
 simp only[qdb hn,jy,qyo (yn b.U),qke,hp,Option.isSome_some,Bool.not_true,cF,qa6,ye h1]
 rcases hkk with rfl|rfl|rfl|rfl|rfl|rfl
 ·obtain⟨g1,g2⟩:=qbe (a:=2) (c:=2) hk rfl hc
  obtain⟨a,c,hn'⟩:=qc0 g1
  obtain⟨v0,v1,hv⟩:=qc0 g2
  rw[if_pos hk,show decide (e.kind=([117,115,101]:List UInt8))=true from dT hk]
  obtain⟨r',cc,q1,q2⟩:=ju5 b w hk hc hn' hv h1
  simp only[cT,q1]
  exact⟨_,_,rfl,q2⟩
 ·obtain⟨g1,g2⟩:=qbe (a:=2) (c:=1) hk rfl hc
  obtain⟨a,c,hn'⟩:=qc0 g1
  rw[if_neg (show ¬e.kind=qe4 by rw[hk];decide),if_pos hk,show decide (e.kind=([117,115,101]:List UInt8))=false from dF (by rw[hk];decide),show decide (e.kind=([112,97,105,114]:List UInt8))=true from dT hk]
  obtain⟨r',cc,q1,q2⟩:=jn5 b hk hc hn' h1
  simp only[cT,cF,q1]
  exact⟨_,_,rfl,q2⟩
 ·obtain⟨g1,g2⟩:=qbe (a:=2) (c:=2) hk rfl hc
  obtain⟨a,n1,hn'⟩:=qc0 g1
  obtain⟨v0,v1,hv⟩:=qc0 g2
  rw[if_neg (show ¬e.kind=qe4 by rw[hk];decide),if_neg (show ¬e.kind=qd1 by rw[hk];decide),if_pos hk,show decide (e.kind=([117,115,101]:List UInt8))=false from dF (by rw[hk];decide),show decide (e.kind=([112,97,105,114]:List UInt8))=false from dF (by rw[hk];decide),show decide (e.kind=([109,101,97,115,117,114,101]:List UInt8))=true from dT hk,nm1 hn',vl1 hv,o.pap]
  simp only[cT,cF]
  by_cases hs:u.shipped=true
  ·rw[hs];exact⟨_,_,rfl,rfl,by decide⟩
  have hs':u.shipped=false:=by simpa using hs
  have L:=qp2 (D.tests.getD []) (qko r e (k:Int) u D) (fun i (c:Bool)=>(c,(i:Int))) (fun c y=>if c then true else isT n1 y) (fun c=>(c,((D.tests.getD []).length:Int))) false (fun c=>by unfold qko;simp only[qag];rfl)
   (fun i c y hy hi=>by
    unfold qko
    simp only[qaz hi,cT,jy,ye hy,qcy hn']
    rw[qax (by have:=o.tests;unfold BB at this;omega)]
    cases c<;>rfl)
  rw[q13,Bool.false_or]at L
  have L':itO (qko r e (k:Int) u D) (false,0)=some ((D.tests.getD []).any (isT n1),((D.tests.getD []).length:Int)):=L
  rw[if_neg hs]
  simp only[q3q hs',o.doc',L',qcy hn',qcy hv,qgk (yn o.results)]
  rw[hs',qjb (o:=some (u.results.getD [])) (by have:=qe1 o.results;simp only[Option.getD_some,List.length_singleton];omega) (by simp)]
  simp only[cF,Option.any_some,show D.er.tests=D.tests.getD []from rfl]
  cases (D.tests.getD []).any (isT n1)with
  |false=>exact⟨_,_,rfl,rfl,by decide⟩
  |true=>
   have f9:=qjt (r:=r) (x:={ u with results:=some (u.results.getD []++[⟨n1,u.version,v1⟩]) }) b.U (qhm h1)
   have hok:({ r with units:=some ((r.units.getD []).set k { u with results:=some (u.results.getD []++[⟨n1,u.version,v1⟩]) }) }:qc).er=setUnit r.er k { u.er with results:=u.results.getD []++[⟨n1,u.version,v1⟩] }:=by rw[qeg rfl];rfl
   rw[hs']at f9
   by_cases h2:64≤(u.results.getD []).length
   ·simp only[show decide (64≤((u.results.getD []).length:Int))=true from dT (by omega),if_pos h2,Bool.not_true,Bool.false_eq_true,if_false,cT]
    exact⟨_,_,rfl,rfl,by decide⟩
   ·simp only[show decide (64≤((u.results.getD []).length:Int))=false from dF (by omega),if_neg h2,Bool.not_true,Bool.false_eq_true,if_false,cT,cF,Option.getD_some,f9]
    rw[hs']at hok
    exact⟨_,_,rfl,rfl,hok⟩
 ·rw[if_neg (show ¬e.kind=qe4 by rw[hk];decide),if_neg (show ¬e.kind=qd1 by rw[hk];decide),if_neg (show ¬e.kind=qci by rw[hk];decide),if_pos hk,show decide (e.kind=([117,115,101]:List UInt8))=false from dF (by rw[hk];decide),show decide (e.kind=([112,97,105,114]:List UInt8))=false from dF (by rw[hk];decide),show decide (e.kind=([109,101,97,115,117,114,101]:List UInt8))=false from dF (by rw[hk];decide),show decide (e.kind=([117,112,100,97,116,101]:List UInt8))=true from dT hk,o.new]
  simp only[cT,cF]
  by_cases hs:u.shipped=true
  ·rw[hs];exact⟨_,_,rfl,rfl,by decide⟩
  have hs':u.shipped=false:=by simpa using hs
  rw[if_neg hs]
  have f9:=qjt (r:=r) (x:={ u with version:=v }) b.U (qhm h1)
  have hok:({ r with units:=some ((r.units.getD []).set k { u with version:=v }) }:qc).er=setUnit r.er k { u.er with version:=v }:=by rw[qeg rfl];rfl
  rw[hs']at f9 hok
  simp only[q3q hs',(qnk (yn b.P) o.new).2,f9]
  rw[hs']
  simp only[cF]
  by_cases h:u.version=v
  ·rw[dT h,if_pos h];exact⟨_,_,rfl,rfl,by decide⟩
  ·rw[dF h,if_neg h];exact⟨_,_,rfl,rfl,hok⟩
 ·rw[if_neg (show ¬e.kind=qe4 by rw[hk];decide),if_neg (show ¬e.kind=qd1 by rw[hk];decide),if_neg (show ¬e.kind=qci by rw[hk];decide),if_neg (show ¬e.kind=qdk by rw[hk];decide),if_pos hk,show decide (e.kind=([117,115,101]:List UInt8))=false from dF (by rw[hk];decide),show decide (e.kind=([112,97,105,114]:List UInt8))=false from dF (by rw[hk];decide),show decide (e.kind=([109,101,97,115,117,114,101]:List UInt8))=false from dF (by rw[hk];decide),show decide (e.kind=([117,112,100,97,116,101]:List UInt8))=false from dF (by rw[hk];decide),show decide (e.kind=([115,104,105,112]:List UInt8))=true from dT hk]
  have g2:=jks (yn b.P) o.new (yn b.L) (yn o.uses) o.lots o.doc' o.pap (yn o.needs) (yn o.results) (yn o.tests)
  have f9:=qjt (r:=r) (x:={ u with shipped:=true }) b.U (qhm h1)
  simp only[cT,cF,g2,f9]
  by_cases h:qhp (j8 .i64) r.er u.er=0
  ·rw[dT h,if_neg (fun hh=>hh h)];exact⟨_,_,rfl,rfl,qeg rfl⟩
  ·rw[dF h,if_pos h];exact⟨_,_,rfl,rfl,h⟩
 ·rw[if_neg (show ¬e.kind=qe4 by rw[hk];decide),if_neg (show ¬e.kind=qd1 by rw[hk];decide),if_neg (show ¬e.kind=qci by rw[hk];decide),if_neg (show ¬e.kind=qdk by rw[hk];decide),if_neg (show ¬e.kind=qco by rw[hk];decide),show decide (e.kind=([117,115,101]:List UInt8))=false from dF (by rw[hk];decide),show decide (e.kind=([112,97,105,114]:List UInt8))=false from dF (by rw[hk];decide),show decide (e.kind=([109,101,97,115,117,114,101]:List UInt8))=false from dF (by rw[hk];decide),show decide (e.kind=([117,112,100,97,116,101]:List UInt8))=false from dF (by rw[hk];decide),show decide (e.kind=([115,104,105,112]:List UInt8))=false from dF (by rw[hk];decide)]
  have f9:=qjt (r:=r) (x:={ u with complaints:=j8 .i64 (u.complaints+1) }) b.U (qhm h1)
  have hok:({ r with units:=some ((r.units.getD []).set k { u with complaints:=j8 .i64 (u.complaints+1) }) }:qc).er=setUnit r.er k { u.er with complaints:=j8 .i64 (u.complaints+1) }:=by rw[qeg rfl];rfl
  simp only[cF]
  by_cases hs:u.shipped=true
  ·rw[hs]at f9 hok ⊢
   simp only[f9]
   exact⟨_,_,rfl,rfl,hok⟩
  ·have hs':u.shipped=false:=by simpa using hs
   rw[hs']
   exact⟨_,_,rfl,rfl,by decide⟩
end Go.Z
