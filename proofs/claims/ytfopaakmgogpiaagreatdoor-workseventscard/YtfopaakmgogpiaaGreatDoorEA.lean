/- Chapter 10, plain. -/
import Derived.Test.YtfopaakmgogpiaaGreatDoorE9
import Derived.Test.YtfopaakmgogpiaaGreatDoorW12
set_option linter.unusedVariables false
set_option linter.unusedSimpArgs false
set_option maxRecDepth 100000
set_option maxHeartbeats 4000000
namespace Go.Z
open Go Go.Abs Go.W
variable {r:GReg} {e:GEv}
theorem q1i {a lo hi:Int}:f59 a lo hi=some (decide (a < lo∨hi < a)):=by
 unfold f59
 by_cases h:a < lo
 ·simp [h]
 ·simp [h]
theorem qhr {o:Option Nat}:decide (ixI o < 0)=!o.isSome:=by
 cases o with
 | none=>rfl
 | some k=>exact decide_eq_false (by show ¬ (k:Int) < 0; omega)
theorem jxg (b:GB r) (hk:e.kind=qcz) (hc:zb e.er=0):qa3 (f124 r e) (jh (qe .i64) r.er e.er):=by
 obtain ⟨h1,h2⟩:=y7 hk (show yz qcz=some (2,2) from rfl) hc
 obtain ⟨n0,n1,hn⟩:=qa2 h1
 obtain ⟨v0,v1,hv⟩:=qa2 h2
 unfold jh qff
 rw [show e.er.kind=qcz from hk,if_pos (by decide),if_pos rfl,nm0 hn,nm1 hn,vl1 hv,qey]
 unfold f124
 simp only [qbe hn,qa7 hn,qa7 hv,qa,qqf (jo b.L),qch,q1i,qej (jo b.L)]
 rw [show decide (e.kind=([108,111,116]:List UInt8))=true from decide_eq_true hk,qg2 (o:=some (r.lots.getD [])) (by have:=qc0 b.L; simp only [Option.getD_some,List.length_singleton]; omega) (by simp)]
 simp only [cond_true]
 cases (zz r.er n0).isSome with
 | true=>exact ⟨_,_,rfl,rfl,by decide⟩
 | false=>
  by_cases h1:v1 < 1∨10000 < v1
  ·simp only [decide_eq_true h1,if_pos h1]
   exact ⟨_,_,rfl,rfl,by decide⟩
  ·simp only [decide_eq_false h1,if_neg h1]
   by_cases h2:64≤(r.lots.getD []).length
   ·simp only [show decide (64≤((r.lots.getD []).length:Int))=true from decide_eq_true (by omega),qey,if_pos h2,Bool.false_eq_true,if_false]
    exact ⟨_,_,rfl,rfl,by decide⟩
   ·simp only [show decide (64≤((r.lots.getD []).length:Int))=false from decide_eq_false (by omega),qey,if_neg h2,Bool.false_eq_true,if_false]
    exact ⟨_,_,rfl,rfl,rfl⟩
theorem jbb (b:GB r) (hk:e.kind=kr) (hc:zb e.er=0):qa3 (f124 r e) (jh (qe .i64) r.er e.er):=by
 obtain ⟨h1,h2⟩:=y7 hk (show yz kr=some (1,1) from rfl) hc
 obtain ⟨n0,hn⟩:=qb4 h1
 unfold jh qff
 rw [show e.er.kind=kr from hk,if_pos (by decide),if_neg (by decide),if_pos rfl,nm0 hn]
 have hl:r.er.products.length=(r.products.getD []).length:=by rw [qec,List.length_map]
 unfold f124
 simp only [qbe hn,qa,qiv (jo b.P),qch,qej (jo b.P),hl]
 rw [show decide (e.kind=([108,111,116]:List UInt8))=false from decide_eq_false (by rw [hk]; decide),show decide (e.kind=([112,114,111,100,117,99,116]:List UInt8))=true from decide_eq_true hk,qg2 (o:=some (r.products.getD [])) (by have:=qc0 b.P; simp only [Option.getD_some,List.length_singleton]; omega) (by simp)]
 simp only [cond_true,cond_false]
 cases (z6 r.er n0).isSome with
 | true=>exact ⟨_,_,rfl,rfl,by decide⟩
 | false=>
  by_cases h2:16≤(r.products.getD []).length
  ·simp only [show decide (16≤((r.products.getD []).length:Int))=true from decide_eq_true (by omega),if_pos h2]
   exact ⟨_,_,rfl,rfl,by decide⟩
  ·simp only [show decide (16≤((r.products.getD []).length:Int))=false from decide_eq_false (by omega),if_neg h2]
   exact ⟨_,_,rfl,rfl,qvl rfl⟩
theorem jkp (b:GB r) (hk:e.kind=qbw) (hc:zb e.er=0):qa3 (f124 r e) (jh (qe .i64) r.er e.er):=by
 obtain ⟨h1,h2⟩:=y7 hk (show yz qbw=some (2,1) from rfl) hc
 obtain ⟨n0,n1,hn⟩:=qa2 h1
 unfold jh qff
 rw [show e.er.kind=qbw from hk,if_pos (by decide),if_neg (by decide),if_neg (by decide),nm0 hn,nm1 hn]
 have hl:r.er.units.length=(r.units.getD []).length:=by rw [qfn,List.length_map]
 unfold f124
 simp only [qbe hn,qa7 hn,qa,qiv (jo b.P),qwo (jo b.U),qch,qhr,qej (jo b.U),hl]
 rw [show decide (e.kind=([108,111,116]:List UInt8))=false from decide_eq_false (by rw [hk]; decide),show decide (e.kind=([112,114,111,100,117,99,116]:List UInt8))=false from decide_eq_false (by rw [hk]; decide)]
 simp only [cond_false]
 unfold qbp
 cases hp:z6 r.er n1 with
 | none=>exact ⟨_,_,rfl,rfl,by decide⟩
 | some k=>
  obtain ⟨p,g1,_,g3⟩:=qmm hp
  have hd:p.er.docs.isEmpty=decide (((p.docs.getD []).length:Int)=0):=by
   show ((p.docs.getD []).map GDoc.er).isEmpty=_
   cases p.docs.getD [] with
   | nil=>rfl
   | cons x l=>simp; omega
  have hd2:p.er.docs.length=(p.docs.getD []).length:=by show ((p.docs.getD []).map GDoc.er).length=_; rw [List.length_map]
  simp only [Option.isSome_some,Bool.not_true,cond_false,yv,jf g1,Option.bind_some,g3,hd,hd2]
  rw [qg2 (o:=some (r.units.getD [])) (by have:=qc0 b.U; simp only [Option.getD_some,List.length_singleton]; omega) (by simp)]
  cases (zq r.er n0).isSome with
  | true=>exact ⟨_,_,rfl,rfl,by decide⟩
  | false=>
   cases decide (((p.docs.getD []).length:Int)=0) with
   | true=>exact ⟨_,_,rfl,rfl,by decide⟩
   | false=>
    by_cases h2:256≤(r.units.getD []).length
    ·simp only [show decide (256≤((r.units.getD []).length:Int))=true from decide_eq_true (by omega),if_pos h2]
     exact ⟨_,_,rfl,rfl,by decide⟩
    ·simp only [show decide (256≤((r.units.getD []).length:Int))=false from decide_eq_false (by omega),if_neg h2]
     exact ⟨_,_,rfl,rfl,quk rfl⟩
theorem q44 (b:GB r) {k:Nat} {x:qt} (hk:k < (r.lots.getD []).length):f206 r (k:Int) x=some { r with lots:=some ((r.lots.getD []).set k x) }:=by
 unfold f206; rw [q3m (jo b.L) hk]; rfl
theorem jjj (b:GB r) {k:Nat} {x:GProd} (hk:k < (r.products.getD []).length):f205 r (k:Int) x=some { r with products:=some ((r.products.getD []).set k x) }:=by
 unfold f205; rw [q3m (jo b.P) hk]; rfl
theorem qg1 (hb:(r.units.getD []).length≤BB) {k:Nat} {x:GUn} (hk:k < (r.units.getD []).length):f209 r (k:Int) x=some { r with units:=some ((r.units.getD []).set k x) }:=by
 unfold f209; rw [q3m (jo hb) hk]; rfl
theorem qfe {α:Type} {l:List α} {k:Nat} {x:α} (h:l[k]?=some x):k < l.length:=(List.getElem?_eq_some_iff.1 h).1
theorem jai (b:GB r) (hold:Bool) (hk:e.kind=if hold then qcf else qea) (hc:zb e.er=0):qa3 (f126 r e) (jh (qe .i64) r.er e.er):=by
 obtain ⟨h1,h2⟩:=y7 (a:=1) (c:=1) hk (by cases hold <;> rfl) hc
 obtain ⟨n0,hn⟩:=qb4 h1
 rw [kn hk (by cases hold <;> decide) (by cases hold <;> decide),if_pos (by cases hold <;> decide)]
 unfold qkm
 rw [nm0 hn]
 unfold f126
 simp only [qbe hn,qa,qqf (jo b.L),qhr]
 cases hp:zz r.er n0 with
 | none=>exact ⟨_,_,rfl,rfl,by decide⟩
 | some k=>
  obtain ⟨x,g1,_⟩:=qt7 hp
  simp only [Option.isSome_some,Bool.not_true,cond_false,yv,jf g1,qey,g1,q44 b (qfe g1),show e.er.kind=e.kind from rfl]
  cases hold with
  | true=>
   have hk:e.kind=qcf:=hk
   rw [show decide (e.kind=([104,111,108,100]:List UInt8))=true from decide_eq_true hk,show decide (e.kind=([102,114,101,101]:List UInt8))=false from decide_eq_false (by rw [hk]; decide),if_pos hk]
   by_cases hh:x.held=true
   ·simp only [hh,cond_true,if_true]; exact ⟨_,_,rfl,rfl,by decide⟩
   ·rw [Bool.not_eq_true] at hh
    simp only [hh,cond_true,cond_false,Bool.false_eq_true,if_false]; exact ⟨_,_,rfl,rfl,qkc rfl⟩
  | false=>
   have hk:e.kind=qea:=hk
   rw [show decide (e.kind=([104,111,108,100]:List UInt8))=false from decide_eq_false (by rw [hk]; decide),show decide (e.kind=([102,114,101,101]:List UInt8))=true from decide_eq_true hk,if_neg (by rw [hk]; decide)]
   by_cases hh:x.held=true
   ·simp only [hh,cond_true,cond_false,Bool.not_true,Bool.false_eq_true,if_false]; exact ⟨_,_,rfl,rfl,qkc rfl⟩
   ·rw [Bool.not_eq_true] at hh
    simp only [hh,cond_true,cond_false,Bool.not_false,if_true]; exact ⟨_,_,rfl,rfl,by decide⟩
theorem q24 {α:Type} {l:List α} {p:α→Bool} {x:α} (h:l.length≤16):16 < (qak p x l).length↔(!(l.any p))=true∧16≤l.length:=by
 unfold qak
 rw [any_findIdx]
 cases hi:l.findIdx? p with
 | some i=>
  simp only [List.length_set]
  constructor
  ·intro h2; omega
  ·rintro ⟨h2,_⟩; cases h2
 | none=>
  simp only [List.length_append,List.length_singleton]
  constructor
  ·intro h2; exact ⟨rfl,by omega⟩
  ·rintro ⟨_,h2⟩; omega
theorem q2m (b:GB r) (w:WF r.er) {kk:List UInt8} (hkk:kk=qbq∨kk=qbz∨kk=qb8) (hk:e.kind=kk) (hc:zb e.er=0) (hv0:∀ v∈e.values.getD [],0≤v):qa3 (f125 r e) (jh (qe .i64) r.er e.er):=by
 have hR:jh (qe .i64) r.er e.er=qax r.er e.er:=by
  unfold jh
  rw [show e.er.kind=kk from hk,if_neg (by rcases hkk with rfl | rfl | rfl <;> decide),if_pos hkk]
 rw [hR]
 obtain ⟨n0,t,hn⟩:∃ n0 t,e.names.getD []=n0::t:=by
  rcases hkk with rfl | rfl | rfl
  ·obtain ⟨a,c,h⟩:=qa2 (y7 (c:=2) hk rfl hc).1; exact ⟨_,_,h⟩
  ·obtain ⟨a,c,h⟩:=qa2 (y7 (c:=3) hk rfl hc).1; exact ⟨_,_,h⟩
  ·obtain ⟨a,h⟩:=qb4 (y7 (c:=1) hk rfl hc).1; exact ⟨_,_,h⟩
 cases hp:z6 r.er n0 with
 | none=>
  unfold qax
  rw [nm0 hn,hp]
  unfold f125
  simp only [qbe hn,qa,qiv (jo b.P),qhr,hp]
  exact ⟨_,_,rfl,rfl,by decide⟩
 | some k=>
 obtain ⟨p,g1,_,g3⟩:=qmm hp
 have hm:=List.mem_of_getElem? g1
 have hD:=b.D p hm
 have hpe:p.er∈r.er.products:=by rw [qec]; exact List.mem_map_of_mem hm
 have hkn:=w.needs _ hpe
 have hkt:=w.tests _ hpe
 have hkn1:qat (·.k) (p.dn.getD []):=hkn.1
 have hkn2:(p.dn.getD []).length≤16:=hkn.2
 have hkt1:qat (·.k) (p.dt.getD []):=hkt.1
 have hkt2:(p.dt.getD []).length≤16:=hkt.2
 rw [onP (nm0 hn) hp g3]
 unfold f125
 simp only [qbe hn,qa,qiv (jo b.P),qhr,hp,Option.isSome_some,Bool.not_true,cond_false,yv,jf g1,jjj b (qfe g1)]
 rcases hkk with rfl | rfl | rfl
 ·obtain ⟨h1,h2⟩:=y7 (a:=2) (c:=2) hk rfl hc
  obtain ⟨n0',n1,hn'⟩:=qa2 h1
  obtain ⟨v0,v1,hv⟩:=qa2 h2
  have h0:0≤v1:=hv0 v1 (by rw [hv]; simp)
  obtain ⟨v,ww,f1,f2⟩:=jjw (x:=⟨n1,v1⟩) (qc0 hD.2.1) hkn1 h0
  have f2:v.getD []=qac (p.dn.getD []) n1 v1:=f2
  rw [if_pos hk,nm1 hn',vl1 hv]
  simp only [qa7 hv,qa7 hn',f1,show decide (e.kind=([110,101,101,100]:List UInt8))=true from decide_eq_true hk,cond_true]
  by_cases hz:10000 < v1
  ·rw [decide_eq_true hz,if_pos (Or.inr hz)]; exact ⟨_,_,rfl,rfl,by decide⟩
  ·rw [decide_eq_false hz,if_neg (show ¬ (v1 < 0∨10000 < v1) by omega)]
   have hok:({ r with products:=some ((r.products.getD []).set k ⟨p.name,v,p.dt,p.docs⟩) }:GReg).er=setProd r.er k { p.er with draft:={ p.er.draft with needs:=qac (p.dn.getD []) n1 v1 } }:=by
    rw [qex rfl]
    congr 1
    simp only [GProd.er,f2]
   have hlen:decide (16 < ((v.getD []).length:Int))=decide (16 < (qac (p.dn.getD []) n1 v1).length):=by
    rw [f2]
    by_cases h:16 < (qac (p.dn.getD []) n1 v1).length
    ·rw [decide_eq_true h]; exact decide_eq_true (by omega)
    ·rw [decide_eq_false h]; exact decide_eq_false (by omega)
   have hcond:16 < (qac (p.dn.getD []) n1 v1).length↔(0 < v1∧(!(p.dn.getD []).any (isK n1))=true∧16≤(p.dn.getD []).length):=by
    unfold qac
    by_cases hz0:v1=0
    ·rw [if_pos hz0]
     have:=List.length_filter_le (fun x=>!isK n1 x) (p.dn.getD [])
     constructor
     ·intro h; omega
     ·rintro ⟨h,_⟩; omega
    ·rw [if_neg hz0,q24 hkn2]
     constructor
     ·intro h; exact ⟨by omega,h⟩
     ·exact fun h=>h.2
   simp only [cond_false,hlen]
   by_cases h16:16 < (qac (p.dn.getD []) n1 v1).length
   ·rw [decide_eq_true h16,if_pos (hcond.1 h16)]
    cases ww <;> exact ⟨_,_,rfl,rfl,by decide⟩
   ·rw [decide_eq_false h16,if_neg (fun h=>h16 (hcond.2 h))]
    cases ww <;> exact ⟨_,_,rfl,rfl,hok⟩
 ·obtain ⟨h1,h2⟩:=y7 (a:=2) (c:=3) hk rfl hc
  obtain ⟨n0',n1,hn'⟩:=qa2 h1
  obtain ⟨v0,v1,v2,hv⟩:=jql h2
  obtain ⟨v,ww,f1,f2⟩:=jjz (x:=⟨n1,v1,v2⟩) (qc0 hD.2.2.1) hkt1
  have f2:v.getD []=qak (isT n1) ⟨n1,v1,v2⟩ (p.dt.getD []):=f2
  rw [if_neg (show ¬ e.kind=qbq by rw [hk]; decide),if_pos hk,nm1 hn',vl1 hv,vl2 hv]
  simp only [qa7 hv,jpb hv,qa7 hn',f1,show decide (e.kind=([110,101,101,100]:List UInt8))=false from decide_eq_false (by rw [hk]; decide),show decide (e.kind=([116,101,115,116]:List UInt8))=true from decide_eq_true hk,cond_true,cond_false]
  by_cases hz:v2 < v1
  ·rw [decide_eq_true hz,if_pos hz]; exact ⟨_,_,rfl,rfl,by decide⟩
  ·rw [decide_eq_false hz,if_neg hz]
   have hok:({ r with products:=some ((r.products.getD []).set k ⟨p.name,p.dn,v,p.docs⟩) }:GReg).er=setProd r.er k { p.er with draft:={ p.er.draft with tests:=qak (isT n1) ⟨n1,v1,v2⟩ (p.dt.getD []) } }:=by
    rw [qex rfl]
    congr 1
    simp only [GProd.er,f2]
   have hlen:decide (16 < ((v.getD []).length:Int))=decide (16 < (qak (isT n1) ⟨n1,v1,v2⟩ (p.dt.getD [])).length):=by
    rw [f2]
    by_cases h:16 < (qak (isT n1) ⟨n1,v1,v2⟩ (p.dt.getD [])).length
    ·rw [decide_eq_true h]; exact decide_eq_true (by omega)
    ·rw [decide_eq_false h]; exact decide_eq_false (by omega)
   have hcond:=q24 (p:=isT n1) (x:=(⟨n1,v1,v2⟩:qu)) hkt2
   simp only [cond_false,hlen]
   by_cases h16:16 < (qak (isT n1) ⟨n1,v1,v2⟩ (p.dt.getD [])).length
   ·rw [decide_eq_true h16,if_pos (hcond.1 h16)]
    cases ww <;> exact ⟨_,_,rfl,rfl,by decide⟩
   ·rw [decide_eq_false h16,if_neg (fun h=>h16 (hcond.2 h))]
    cases ww <;> exact ⟨_,_,rfl,rfl,hok⟩
 ·rw [if_neg (show ¬ e.kind=qbq by rw [hk]; decide),if_neg (show ¬ e.kind=qbz by rw [hk]; decide)]
  simp only [show decide (e.kind=([110,101,101,100]:List UInt8))=false from decide_eq_false (by rw [hk]; decide),show decide (e.kind=([116,101,115,116]:List UInt8))=false from decide_eq_false (by rw [hk]; decide),cond_false,qej (jo hD.1)]
  rw [qg2 (o:=some (p.docs.getD [])) (by have:=qc0 hD.1; simp only [Option.getD_some,List.length_singleton]; omega) (by simp)]
  have hd2:p.er.docs.length=(p.docs.getD []).length:=by show ((p.docs.getD []).map GDoc.er).length=_; rw [List.length_map]
  have hd:(p.dn.getD []).isEmpty=decide (((p.dn.getD []).length:Int)=0):=by
   cases p.dn.getD [] with
   | nil=>rfl
   | cons x l=>simp; omega
  have hok:({ r with products:=some ((r.products.getD []).set k ⟨p.name,p.dn,p.dt,some (p.docs.getD []++[⟨p.dn,p.dt⟩])⟩) }:GReg).er=setProd r.er k { p.er with docs:=p.er.docs++[p.er.draft] }:=by
   rw [qex rfl]
   congr 1
   simp only [GProd.er,Option.getD_some,List.map_append,List.map_cons,List.map_nil]
   rfl
  simp only [hd,hd2]
  cases decide (((p.dn.getD []).length:Int)=0) with
  | true=>exact ⟨_,_,rfl,rfl,by decide⟩
  | false=>
   by_cases h2:100≤(p.docs.getD []).length
   ·simp only [show decide (100≤((p.docs.getD []).length:Int))=true from decide_eq_true (by omega),if_pos h2,Bool.false_eq_true,if_false]
    exact ⟨_,_,rfl,rfl,by decide⟩
   ·simp only [show decide (100≤((p.docs.getD []).length:Int))=false from decide_eq_false (by omega),if_neg h2,Bool.false_eq_true,if_false]
    exact ⟨_,_,rfl,rfl,hok⟩
end Go.Z
namespace Go.Z
open Go Go.Abs Go.W
variable {r:GReg} {e:GEv}
theorem q07 {α:Type} (p:α→Bool):∀ (l:List α) (c:Bool),l.foldl (fun c x=>if c then true else p x) c=(c || l.any p)
 | [],c=>by simp
 | x::l,c=>by
  rw [List.foldl_cons,q07 p l,List.any_cons]
  cases c <;> simp
theorem q19 {u:GUn} (h:u.shipped=false):(⟨u.name,u.product,u.version,u.uses,u.results,u.partner,false,u.complaints⟩:GUn)=u:=by cases u; simp only at h; rw [h]
theorem jvo (b:GB r) (w:WF r.er) (hk:e.kind=qcw) (hc:zb e.er=0) {k:Nat} {u:GUn} {n0 n1:List UInt8} {v0 v1:Int} (hn:e.names.getD []=[n0,n1]) (hv:e.values.getD []=[v0,v1]) (h1:(r.units.getD [])[k]?=some u):qa3 (f207 r (k:Int) e) (qn1 (qe .i64) r.er k u.er e.er):=by
 obtain ⟨D,v,o⟩:=qiu b w h1
 unfold qn1
 rw [nm1 hn,vl1 hv,o.pap]
 unfold f207
 simp only [jf h1,qa7 hn,qa7 hv,qa,qqf (jo b.L),qhr]
 cases hq:zz r.er n1 with
 | none=>exact ⟨_,_,rfl,rfl,by decide⟩
 | some j=>
 obtain ⟨x,h4,_⟩:=qt7 hq
 simp only [Option.isSome_some,Bool.not_true,cond_false,yv,jf h4,qey,h4]
 by_cases hs:u.shipped=true
 ·rw [hs,if_pos (show u.er.shipped=true from hs)]; exact ⟨_,_,rfl,rfl,by decide⟩
 rw [if_neg (show ¬ u.er.shipped=true from hs)]
 rw [Bool.not_eq_true] at hs
 simp only [q19 hs,o.doc']
 rw [hs]
 simp only [cond_false]
 by_cases hz:v1=0
 ·rw [decide_eq_true hz,if_pos hz]; exact ⟨_,_,rfl,rfl,by decide⟩
 rw [decide_eq_false hz,if_neg hz]
 simp only [cond_false]
 by_cases hh:x.held=true
 ·rw [hh]; exact ⟨_,_,rfl,rfl,by decide⟩
 have hh':x.held=false:=by simpa using hh
 have L:=qlq (D.needs.getD []) (qhv r (k:Int) e u (j:Int) x D) (fun i (c:Bool)=>(c,(i:Int))) (fun c y=>if c then true else isK x.kind y) (fun c=>(c,((D.needs.getD []).length:Int))) false (fun c=>by unfold qhv; simp only [zx]; rfl)
  (fun i c y hy hi=>by
   unfold qhv
   simp only [yn hi,cond_true,qa,jf hy]
   rw [yl (by have:=o.needs; unfold BB at this; omega)]
   cases c <;> rfl)
 rw [q07,Bool.false_or] at L
 have L':itO (qhv r (k:Int) e u (j:Int) x D) (false,0)=some ((D.needs.getD []).any (isK x.kind),((D.needs.getD []).length:Int)):=L
 rw [if_neg hh]
 simp only [hh',cond_false,L',Option.any_some,show D.er.needs=D.needs.getD [] from rfl]
 cases (D.needs.getD []).any (isK x.kind) with
 | false=>exact ⟨_,_,rfl,rfl,by decide⟩
 | true=>
 simp only [cond_true,Bool.not_true,Bool.false_eq_true,if_false]
 by_cases hl:x.left < v1
 ·rw [decide_eq_true hl,if_pos hl]; exact ⟨_,_,rfl,rfl,by decide⟩
 rw [decide_eq_false hl,if_neg hl]
 obtain ⟨q,wq,q1,q2⟩:=jjr (o:=u.uses) (k:=x.name) (n:=v1) (qc0 o.uses) o.keyed
 rw [q1]
 simp only [cond_false,q44 b (qfe h4)]
 rw [show (⟨u.name,u.product,u.version,q,u.results,u.partner,false,u.complaints⟩:GUn)={ u with uses:=q } by rw [← hs]]
 have f9:=qg1 (r:={ r with lots:=some ((r.lots.getD []).set j ⟨x.name,x.kind,x.count,qe .i64 (x.left - v1),false⟩) }) (x:={ u with uses:=q }) b.U (qfe h1)
 have hok:({ r with lots:=some ((r.lots.getD []).set j ⟨x.name,x.kind,x.count,qe .i64 (x.left - v1),false⟩),units:=some ((r.units.getD []).set k { u with uses:=q }) }:GReg).er=setUnit (setLot r.er j ⟨x.name,x.kind,x.count,qe .i64 (x.left - v1),false⟩) k { u.er with uses:=qe8 (qe .i64) u.er.uses x.name v1 }:=by
  simp only [GReg.er,setUnit,setLot,Option.getD_some,List.map_set]
  congr 2
  simp only [GUn.er,q2]
 simp only [f9]
 cases wq <;> exact ⟨_,_,rfl,rfl,hok⟩
theorem jo8 (b:GB r) (hk:e.kind=qb0) (hc:zb e.er=0) {k:Nat} {u:GUn} {n0 n1:List UInt8} (hn:e.names.getD []=[n0,n1]) (h1:(r.units.getD [])[k]?=some u):qa3 (f208 r (k:Int) e) (qjh r.er k u.er e.er):=by
 unfold qjh
 rw [nm1 hn]
 unfold f208
 simp only [jf h1,qa7 hn,qa,qwo (jo b.U),qhr]
 cases hq:zq r.er n1 with
 | none=>exact ⟨_,_,rfl,rfl,by decide⟩
 | some j=>
 obtain ⟨v,h4,_,h5⟩:=qel hq
 rw [yv]
 simp only [Option.isSome_some,Bool.not_true,cond_false,jf h4,h5]
 by_cases c1:k=j
 ·rw [if_pos c1,@decide_eq_true ((j:Int)=(k:Int)) _ (by omega)]; exact ⟨_,_,rfl,rfl,by decide⟩
 rw [if_neg c1,@decide_eq_false ((j:Int)=(k:Int)) _ (by omega)]
 simp only [cond_false]
 by_cases c2:u.product=v.product
 case neg=>rw [decide_eq_false c2,if_pos (show u.er.product ≠ v.er.product∨u.er.version ≠ v.er.version from Or.inl c2)]; exact ⟨_,_,rfl,rfl,by decide⟩
 by_cases c3:u.version=v.version
 case neg=>rw [decide_eq_true c2,decide_eq_false c3,if_pos (show u.er.product ≠ v.er.product∨u.er.version ≠ v.er.version from Or.inr c3)]; exact ⟨_,_,rfl,rfl,by decide⟩
 rw [if_neg (show ¬ (u.er.product ≠ v.er.product∨u.er.version ≠ v.er.version) from fun h=>h.elim (fun h=>h c2) (fun h=>h c3)),decide_eq_true c2,decide_eq_true c3]
 simp only [cond_true]
 by_cases c4:u.shipped=true
 ·rw [if_pos (show u.er.shipped=true∨v.er.shipped=true from Or.inl c4),c4]; exact ⟨_,_,rfl,rfl,by decide⟩
 by_cases c5:v.shipped=true
 ·rw [if_pos (show u.er.shipped=true∨v.er.shipped=true from Or.inr c5)]
  have c4':u.shipped=false:=by simpa using c4
  rw [c4',c5]; exact ⟨_,_,rfl,rfl,by decide⟩
 have c4':u.shipped=false:=by simpa using c4
 have c5':v.shipped=false:=by simpa using c5
 rw [if_neg (show ¬ (u.er.shipped=true∨v.er.shipped=true) from fun h=>h.elim c4 c5)]
 have f1:=qg1 (r:=r) (x:={ u with partner:=v.name }) b.U (qfe h1)
 have f2:=qg1 (r:={ r with units:=some ((r.units.getD []).set k { u with partner:=v.name }) }) (k:=j) (x:={ v with partner:=u.name }) (by rw [Option.getD_some,List.length_set]; exact b.U) (by rw [Option.getD_some,List.length_set]; exact qfe h4)
 have hok:({ r with units:=some (((r.units.getD []).set k { u with partner:=v.name }).set j { v with partner:=u.name }) }:GReg).er=setUnit (setUnit r.er k { u.er with partner:=v.er.name }) j { v.er with partner:=u.er.name }:=by
  simp only [GReg.er,setUnit,Option.getD_some,List.map_set]
  rfl
 rw [show (⟨u.name,u.product,u.version,u.uses,u.results,v.name,false,u.complaints⟩:GUn)={ u with partner:=v.name } by rw [← c4'],show (⟨v.name,v.product,v.version,v.uses,v.results,u.name,false,v.complaints⟩:GUn)={ v with partner:=u.name } by rw [← c5']]
 simp only [f1,f2]
 rw [c4',c5'] at hok ⊢
 simp only [cond_false]
 by_cases c6:u.partner=[]
 case neg=>rw [if_pos (show u.er.partner ≠ []∨v.er.partner ≠ [] from Or.inl c6),decide_eq_false c6]; exact ⟨_,_,rfl,rfl,by decide⟩
 by_cases c7:v.partner=[]
 case neg=>rw [if_pos (show u.er.partner ≠ []∨v.er.partner ≠ [] from Or.inr c7),decide_eq_true c6,decide_eq_false c7]; exact ⟨_,_,rfl,rfl,by decide⟩
 rw [if_neg (show ¬ (u.er.partner ≠ []∨v.er.partner ≠ []) from fun h=>h.elim (fun h=>h c6) (fun h=>h c7)),decide_eq_true c6,decide_eq_true c7]
 exact ⟨_,_,rfl,rfl,hok⟩
theorem qlk (b:GB r) (w:WF r.er) {kk:List UInt8} (hkk:kk=qcw∨kk=qb0∨kk=qan∨kk=qbl∨kk=qau∨kk=qcb) (hk:e.kind=kk) (hc:zb e.er=0):qa3 (f127 r e) (jh (qe .i64) r.er e.er):=by
 rw [kn hk (by rcases hkk with rfl | rfl | rfl | rfl | rfl | rfl <;> decide) (by rcases hkk with rfl | rfl | rfl | rfl | rfl | rfl <;> decide),if_neg (by rcases hkk with rfl | rfl | rfl | rfl | rfl | rfl <;> decide)]
 obtain ⟨n0,t,hn⟩:∃ n0 t,e.names.getD []=n0::t:=by
  rcases hkk with rfl | rfl | rfl | rfl | rfl | rfl
  ·obtain ⟨a,c,h⟩:=qa2 (y7 (c:=2) hk rfl hc).1; exact ⟨_,_,h⟩
  ·obtain ⟨a,c,h⟩:=qa2 (y7 (c:=1) hk rfl hc).1; exact ⟨_,_,h⟩
  ·obtain ⟨a,c,h⟩:=qa2 (y7 (c:=2) hk rfl hc).1; exact ⟨_,_,h⟩
  ·obtain ⟨a,h⟩:=qb4 (y7 (c:=1) hk rfl hc).1; exact ⟨_,_,h⟩
  ·obtain ⟨a,h⟩:=qb4 (y7 (c:=1) hk rfl hc).1; exact ⟨_,_,h⟩
  ·obtain ⟨a,h⟩:=qb4 (y7 (c:=1) hk rfl hc).1; exact ⟨_,_,h⟩
 cases hp:zq r.er n0 with
 | none=>
  unfold qds
  rw [nm0 hn,hp]
  unfold f127
  simp only [qbe hn,qa,qwo (jo b.U),qhr,hp]
  exact ⟨_,_,rfl,rfl,by decide⟩
 | some k=>
 obtain ⟨u,h1,_,h3⟩:=qel hp
 obtain ⟨D,v,o⟩:=qiu b w h1
 rw [onU (nm0 hn) hp h3]
 unfold f127
 simp only [qbe hn,qa,qwo (jo b.U),qhr,hp,Option.isSome_some,Bool.not_true,cond_false,yv,jf h1]
 rcases hkk with rfl | rfl | rfl | rfl | rfl | rfl
 ·obtain ⟨g1,g2⟩:=y7 (a:=2) (c:=2) hk rfl hc
  obtain ⟨a,c,hn'⟩:=qa2 g1
  obtain ⟨v0,v1,hv⟩:=qa2 g2
  rw [if_pos hk,show decide (e.kind=([117,115,101]:List UInt8))=true from decide_eq_true hk]
  obtain ⟨r',cc,q1,q2⟩:=jvo b w hk hc hn' hv h1
  simp only [cond_true,q1]
  exact ⟨_,_,rfl,q2⟩
 ·obtain ⟨g1,g2⟩:=y7 (a:=2) (c:=1) hk rfl hc
  obtain ⟨a,c,hn'⟩:=qa2 g1
  rw [if_neg (show ¬ e.kind=qcw by rw [hk]; decide),if_pos hk,show decide (e.kind=([117,115,101]:List UInt8))=false from decide_eq_false (by rw [hk]; decide),show decide (e.kind=([112,97,105,114]:List UInt8))=true from decide_eq_true hk]
  obtain ⟨r',cc,q1,q2⟩:=jo8 b hk hc hn' h1
  simp only [cond_true,cond_false,q1]
  exact ⟨_,_,rfl,q2⟩
 ·obtain ⟨g1,g2⟩:=y7 (a:=2) (c:=2) hk rfl hc
  obtain ⟨a,n1,hn'⟩:=qa2 g1
  obtain ⟨v0,v1,hv⟩:=qa2 g2
  rw [if_neg (show ¬ e.kind=qcw by rw [hk]; decide),if_neg (show ¬ e.kind=qb0 by rw [hk]; decide),if_pos hk,show decide (e.kind=([117,115,101]:List UInt8))=false from decide_eq_false (by rw [hk]; decide),show decide (e.kind=([112,97,105,114]:List UInt8))=false from decide_eq_false (by rw [hk]; decide),show decide (e.kind=([109,101,97,115,117,114,101]:List UInt8))=true from decide_eq_true hk,nm1 hn',vl1 hv,o.pap]
  simp only [cond_true,cond_false]
  by_cases hs:u.shipped=true
  ·rw [hs]; exact ⟨_,_,rfl,rfl,by decide⟩
  have hs':u.shipped=false:=by simpa using hs
  have L:=qlq (D.tests.getD []) (qhk r e (k:Int) u D) (fun i (c:Bool)=>(c,(i:Int))) (fun c y=>if c then true else isT n1 y) (fun c=>(c,((D.tests.getD []).length:Int))) false (fun c=>by unfold qhk; simp only [zx]; rfl)
   (fun i c y hy hi=>by
    unfold qhk
    simp only [yn hi,cond_true,qa,jf hy,qa7 hn']
    rw [yl (by have:=o.tests; unfold BB at this; omega)]
    cases c <;> rfl)
  rw [q07,Bool.false_or] at L
  have L':itO (qhk r e (k:Int) u D) (false,0)=some ((D.tests.getD []).any (isT n1),((D.tests.getD []).length:Int)):=L
  rw [if_neg hs]
  simp only [q19 hs',o.doc',L',qa7 hn',qa7 hv,qej (jo o.results)]
  rw [hs',qg2 (o:=some (u.results.getD [])) (by have:=qc0 o.results; simp only [Option.getD_some,List.length_singleton]; omega) (by simp)]
  simp only [cond_false,Option.any_some,show D.er.tests=D.tests.getD [] from rfl]
  cases (D.tests.getD []).any (isT n1) with
  | false=>exact ⟨_,_,rfl,rfl,by decide⟩
  | true=>
   have f9:=qg1 (r:=r) (x:={ u with results:=some (u.results.getD []++[⟨n1,u.version,v1⟩]) }) b.U (qfe h1)
   have hok:({ r with units:=some ((r.units.getD []).set k { u with results:=some (u.results.getD []++[⟨n1,u.version,v1⟩]) }) }:GReg).er=setUnit r.er k { u.er with results:=u.results.getD []++[⟨n1,u.version,v1⟩] }:=by rw [qcg rfl]; rfl
   rw [hs'] at f9
   by_cases h2:64≤(u.results.getD []).length
   ·simp only [show decide (64≤((u.results.getD []).length:Int))=true from decide_eq_true (by omega),if_pos h2,Bool.not_true,Bool.false_eq_true,if_false,cond_true]
    exact ⟨_,_,rfl,rfl,by decide⟩
   ·simp only [show decide (64≤((u.results.getD []).length:Int))=false from decide_eq_false (by omega),if_neg h2,Bool.not_true,Bool.false_eq_true,if_false,cond_true,cond_false,Option.getD_some,f9]
    rw [hs'] at hok
    exact ⟨_,_,rfl,rfl,hok⟩
 ·rw [if_neg (show ¬ e.kind=qcw by rw [hk]; decide),if_neg (show ¬ e.kind=qb0 by rw [hk]; decide),if_neg (show ¬ e.kind=qan by rw [hk]; decide),if_pos hk,show decide (e.kind=([117,115,101]:List UInt8))=false from decide_eq_false (by rw [hk]; decide),show decide (e.kind=([112,97,105,114]:List UInt8))=false from decide_eq_false (by rw [hk]; decide),show decide (e.kind=([109,101,97,115,117,114,101]:List UInt8))=false from decide_eq_false (by rw [hk]; decide),show decide (e.kind=([117,112,100,97,116,101]:List UInt8))=true from decide_eq_true hk,o.new]
  simp only [cond_true,cond_false]
  by_cases hs:u.shipped=true
  ·rw [hs]; exact ⟨_,_,rfl,rfl,by decide⟩
  have hs':u.shipped=false:=by simpa using hs
  rw [if_neg hs]
  have f9:=qg1 (r:=r) (x:={ u with version:=v }) b.U (qfe h1)
  have hok:({ r with units:=some ((r.units.getD []).set k { u with version:=v }) }:GReg).er=setUnit r.er k { u.er with version:=v }:=by rw [qcg rfl]; rfl
  rw [hs'] at f9 hok
  simp only [q19 hs',(qkg (jo b.P) o.new).2,f9]
  rw [hs']
  simp only [cond_false]
  by_cases h:u.version=v
  ·rw [decide_eq_true h,if_pos h]; exact ⟨_,_,rfl,rfl,by decide⟩
  ·rw [decide_eq_false h,if_neg h]; exact ⟨_,_,rfl,rfl,hok⟩
 ·rw [if_neg (show ¬ e.kind=qcw by rw [hk]; decide),if_neg (show ¬ e.kind=qb0 by rw [hk]; decide),if_neg (show ¬ e.kind=qan by rw [hk]; decide),if_neg (show ¬ e.kind=qbl by rw [hk]; decide),if_pos hk,show decide (e.kind=([117,115,101]:List UInt8))=false from decide_eq_false (by rw [hk]; decide),show decide (e.kind=([112,97,105,114]:List UInt8))=false from decide_eq_false (by rw [hk]; decide),show decide (e.kind=([109,101,97,115,117,114,101]:List UInt8))=false from decide_eq_false (by rw [hk]; decide),show decide (e.kind=([117,112,100,97,116,101]:List UInt8))=false from decide_eq_false (by rw [hk]; decide),show decide (e.kind=([115,104,105,112]:List UInt8))=true from decide_eq_true hk]
  have g2:=jsl (jo b.P) o.new (jo b.L) (jo o.uses) o.lots o.doc' o.pap (jo o.needs) (jo o.results) (jo o.tests)
  have f9:=qg1 (r:=r) (x:={ u with shipped:=true }) b.U (qfe h1)
  simp only [cond_true,cond_false,g2,f9]
  by_cases h:qe6 (qe .i64) r.er u.er=0
  ·rw [decide_eq_true h,if_neg (fun hh=>hh h)]; exact ⟨_,_,rfl,rfl,qcg rfl⟩
  ·rw [decide_eq_false h,if_pos h]; exact ⟨_,_,rfl,rfl,h⟩
 ·rw [if_neg (show ¬ e.kind=qcw by rw [hk]; decide),if_neg (show ¬ e.kind=qb0 by rw [hk]; decide),if_neg (show ¬ e.kind=qan by rw [hk]; decide),if_neg (show ¬ e.kind=qbl by rw [hk]; decide),if_neg (show ¬ e.kind=qau by rw [hk]; decide),show decide (e.kind=([117,115,101]:List UInt8))=false from decide_eq_false (by rw [hk]; decide),show decide (e.kind=([112,97,105,114]:List UInt8))=false from decide_eq_false (by rw [hk]; decide),show decide (e.kind=([109,101,97,115,117,114,101]:List UInt8))=false from decide_eq_false (by rw [hk]; decide),show decide (e.kind=([117,112,100,97,116,101]:List UInt8))=false from decide_eq_false (by rw [hk]; decide),show decide (e.kind=([115,104,105,112]:List UInt8))=false from decide_eq_false (by rw [hk]; decide)]
  have f9:=qg1 (r:=r) (x:={ u with complaints:=qe .i64 (u.complaints + 1) }) b.U (qfe h1)
  have hok:({ r with units:=some ((r.units.getD []).set k { u with complaints:=qe .i64 (u.complaints + 1) }) }:GReg).er=setUnit r.er k { u.er with complaints:=qe .i64 (u.complaints + 1) }:=by rw [qcg rfl]; rfl
  simp only [cond_false]
  by_cases hs:u.shipped=true
  ·rw [hs] at f9 hok ⊢
   simp only [f9]
   exact ⟨_,_,rfl,rfl,hok⟩
  ·have hs':u.shipped=false:=by simpa using hs
   rw [hs']
   exact ⟨_,_,rfl,rfl,by decide⟩
end Go.Z
