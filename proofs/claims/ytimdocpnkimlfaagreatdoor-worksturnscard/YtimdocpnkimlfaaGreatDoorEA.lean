/- Chapter 10, plain. -/
import Derived.Test.YtimdocpnkimlfaaGreatDoorE1
set_option linter.unusedVariables false
set_option linter.unusedSimpArgs false
set_option maxRecDepth 100000
set_option maxHeartbeats 4000000
open Bool renaming false→I,false_eq_true→Es,true→E9,not_true→Gd,false_and→Gl,false_or→Gm,true_and→Gn,or_false→Gp,and_true→Gs,not_eq_true→Gu,true_or→Gv,and_false→Gz,or_true→If
open Option renaming some→En,getD_some→Ga,isSome_some→Gf,any_some→G5
open List renaming length_singleton→Ge,length_map→Gj,getElem?_eq_getElem→Gt,length_set→Gx,drop_eq_nil_of_le→Gy,mem_map_of_mem→G2,map_cons→G3,not_mem_nil→G4,find?_cons→G6,drop_zero→G7,mem_cons→Ha,map_nil→Hb,map_set→H9
open Ne renaming symm→Gi
namespace Go.Z
open Go Go.Abs Go.W
variable {r:ar}{e:GEv}
theorem TJ {a lo hi}:f88 a lo hi=En (decide (a<lo∨hi<a)):=by
 unfold f88
 by_cases h:a<lo
 ·simp[h]
 ·simp[h]
theorem yV {o}:decide (eJ o<0)=!o.isSome:=by
 cases o with
 |none=>rfl
 |some k=>exact decide_eq_false (by show ¬(k:Int)<0;omega)
theorem j4e (b:GB r)(hk:e.kind=lA)(hc:jn e.er=0):gO (rM r e) (apply (qe .i64) r.er e.er):=by
 obtain⟨h1,h2⟩:=ki hk (show ye lA=En (2,2)from rfl) hc
 obtain⟨n0,n1,hn⟩:=gP h1
 obtain⟨v0,v1,hv⟩:=gP h2
 unfold apply l7
 rw[show e.er.kind=lA from hk,if_pos (by decide),if_pos rfl,fc hn,l6 hn,vt hv,wG]
 unfold rM
 simp only[gM hn,gN hn,gN hv,qa,Hc (jk b.L),wF,TJ,Bj (jk b.L)]
 rw[show decide (e.kind=([108,111,116]:List UInt8))=E9 from decide_eq_true hk,D8 (o:=En (r.au.getD [])) (by have:=mO b.L;simp only[Ga,Ge];omega) (by simp)]
 simp only[cond_true]
 cases (zm r.er n0).isSome with
 |true=>exact⟨_,_,rfl,rfl,by decide⟩
 |false=>
  by_cases h1:v1<1∨10000<v1
  ·simp only[decide_eq_true h1,if_pos h1]
   exact⟨_,_,rfl,rfl,by decide⟩
  ·simp only[decide_eq_false h1,if_neg h1]
   by_cases h2:64≤(r.au.getD []).length
   ·simp only[show decide (64≤((r.au.getD []).length:Int))=E9 from decide_eq_true (by omega),wG,if_pos h2,Es,if_false]
    exact⟨_,_,rfl,rfl,by decide⟩
   ·simp only[show decide (64≤((r.au.getD []).length:Int))=I from decide_eq_false (by omega),wG,if_neg h2,Es,if_false]
    exact⟨_,_,rfl,rfl,rfl⟩
theorem jcs (b:GB r)(hk:e.kind=kl)(hc:jn e.er=0):gO (rM r e) (apply (qe .i64) r.er e.er):=by
 obtain⟨h1,h2⟩:=ki hk (show ye kl=En (1,1)from rfl) hc
 obtain⟨n0,hn⟩:=jH h1
 unfold apply l7
 rw[show e.er.kind=kl from hk,if_pos (by decide),if_neg (by decide),if_pos rfl,fc hn]
 have hl:r.er.ae.length=(r.ae.getD []).length:=by rw[yK,Gj]
 unfold rM
 simp only[gM hn,qa,D0 (jk b.P),wF,Bj (jk b.P),hl]
 rw[show decide (e.kind=([108,111,116]:List UInt8))=I from decide_eq_false (by rw[hk];decide),show decide (e.kind=([112,114,111,100,117,99,116]:List UInt8))=E9 from decide_eq_true hk,D8 (o:=En (r.ae.getD [])) (by have:=mO b.P;simp only[Ga,Ge];omega) (by simp)]
 simp only[cond_true,cond_false]
 cases (zr r.er n0).isSome with
 |true=>exact⟨_,_,rfl,rfl,by decide⟩
 |false=>
  by_cases h2:16≤(r.ae.getD []).length
  ·simp only[show decide (16≤((r.ae.getD []).length:Int))=E9 from decide_eq_true (by omega),if_pos h2]
   exact⟨_,_,rfl,rfl,by decide⟩
  ·simp only[show decide (16≤((r.ae.getD []).length:Int))=I from decide_eq_false (by omega),if_neg h2]
   exact⟨_,_,rfl,rfl,qw6 rfl⟩
theorem jm9 (b:GB r)(hk:e.kind=lC)(hc:jn e.er=0):gO (rM r e) (apply (qe .i64) r.er e.er):=by
 obtain⟨h1,h2⟩:=ki hk (show ye lC=En (2,1)from rfl) hc
 obtain⟨n0,n1,hn⟩:=gP h1
 unfold apply l7
 rw[show e.er.kind=lC from hk,if_pos (by decide),if_neg (by decide),if_neg (by decide),fc hn,l6 hn]
 have hl:r.er.units.length=(r.units.getD []).length:=by rw[A8,Gj]
 unfold rM
 simp only[gM hn,gN hn,qa,D0 (jk b.P),LM (jk b.U),wF,yV,Bj (jk b.U),hl]
 rw[show decide (e.kind=([108,111,116]:List UInt8))=I from decide_eq_false (by rw[hk];decide),show decide (e.kind=([112,114,111,100,117,99,116]:List UInt8))=I from decide_eq_false (by rw[hk];decide)]
 simp only[cond_false]
 unfold k9
 cases hp:zr r.er n1 with
 |none=>exact⟨_,_,rfl,rfl,by decide⟩
 |some k=>
  obtain⟨p,g1,_,g3⟩:=Eb hp
  have hd:p.er.aM.isEmpty=decide (((p.aM.getD []).length:Int)=0):=by
   show((p.aM.getD []).map aY.er).isEmpty=_
   cases p.aM.getD []with
   |nil=>rfl
   |cons x l=>simp;omega
  have oT:p.er.aM.length=(p.aM.getD []).length:=by show((p.aM.getD []).map aY.er).length=_;rw[Gj]
  simp only[Gf,Gd,cond_false,y6,ja g1,Option.bind_some,g3,hd,oT]
  rw[D8 (o:=En (r.units.getD [])) (by have:=mO b.U;simp only[Ga,Ge];omega) (by simp)]
  cases (zp r.er n0).isSome with
  |true=>exact⟨_,_,rfl,rfl,by decide⟩
  |false=>
   cases decide (((p.aM.getD []).length:Int)=0)with
   |true=>exact⟨_,_,rfl,rfl,by decide⟩
   |false=>
    by_cases h2:256≤(r.units.getD []).length
    ·simp only[show decide (256≤((r.units.getD []).length:Int))=E9 from decide_eq_true (by omega),if_pos h2]
     exact⟨_,_,rfl,rfl,by decide⟩
    ·simp only[show decide (256≤((r.units.getD []).length:Int))=I from decide_eq_false (by omega),if_neg h2]
     exact⟨_,_,rfl,rfl,qw4 rfl⟩
theorem q7l (b:GB r){k x}(hk:k<(r.au.getD []).length):yW r (k:Int) x=En { r with au:=En ((r.au.getD []).set k x) }:=by
 unfold yW;rw[Ts (jk b.L) hk];rfl
theorem jm4 (b:GB r){k x}(hk:k<(r.ae.getD []).length):yX r (k:Int) x=En { r with ae:=En ((r.ae.getD []).set k x) }:=by
 unfold yX;rw[Ts (jk b.P) hk];rfl
theorem Bt (hb:(r.units.getD []).length≤BB){k x}(hk:k<(r.units.getD []).length):f267 r (k:Int) x=En { r with units:=En ((r.units.getD []).set k x) }:=by
 unfold f267;rw[Ts (jk hb) hk];rfl
theorem vz {α:Type}{l:List α}{k x}(h:l[k]?=En x):k<l.length:=(List.getElem?_eq_some_iff.1 h).1
theorem jei (b:GB r)(hold:Bool)(hk:e.kind=if hold then yp else kg)(hc:jn e.er=0):gO (Ek r e) (apply (qe .i64) r.er e.er):=by
 obtain⟨h1,h2⟩:=ki (a:=1) (c:=1) hk (by cases hold<;>rfl) hc
 obtain⟨n0,hn⟩:=jH h1
 rw[kD hk (by cases hold<;>decide) (by cases hold<;>decide),if_pos (by cases hold<;>decide)]
 unfold lE
 rw[fc hn]
 unfold Ek
 simp only[gM hn,qa,Hc (jk b.L),yV]
 cases hp:zm r.er n0 with
 |none=>exact⟨_,_,rfl,rfl,by decide⟩
 |some k=>
  obtain⟨x,g1,_⟩:=HS hp
  simp only[Gf,Gd,cond_false,y6,ja g1,wG,g1,q7l b (vz g1),show e.er.kind=e.kind from rfl]
  cases hold with
  |true=>
   have hk:e.kind=yp:=hk
   rw[show decide (e.kind=([104,111,108,100]:List UInt8))=E9 from decide_eq_true hk,show decide (e.kind=([102,114,101,101]:List UInt8))=I from decide_eq_false (by rw[hk];decide),if_pos hk]
   by_cases hh:x.held=E9
   ·simp only[hh,cond_true,if_true];exact⟨_,_,rfl,rfl,by decide⟩
   ·rw[Gu]at hh
    simp only[hh,cond_true,cond_false,Es,if_false];exact⟨_,_,rfl,rfl,L2 rfl⟩
  |false=>
   have hk:e.kind=kg:=hk
   rw[show decide (e.kind=([104,111,108,100]:List UInt8))=I from decide_eq_false (by rw[hk];decide),show decide (e.kind=([102,114,101,101]:List UInt8))=E9 from decide_eq_true hk,if_neg (by rw[hk];decide)]
   by_cases hh:x.held=E9
   ·simp only[hh,cond_true,cond_false,Gd,Es,if_false];exact⟨_,_,rfl,rfl,L2 rfl⟩
   ·rw[Gu]at hh
    simp only[hh,cond_true,cond_false,Bool.not_false,if_true];exact⟨_,_,rfl,rfl,by decide⟩
theorem q2r {α:Type}{l:List α}{p x}(h:l.length≤16):16<(ke p x l).length↔(!(l.any p))=E9∧16≤l.length:=by
 unfold ke
 rw[D6]
 cases hi:l.findIdx? p with
 |some i=>
  simp only[Gx]
  constructor
  ·intro h2;omega
  ·rintro ⟨h2,_⟩;cases h2
 |none=>
  simp only[List.length_append,Ge]
  constructor
  ·intro h2;exact⟨rfl,by omega⟩
  ·rintro ⟨_,h2⟩;omega
theorem TK (b:GB r)(w:WF r.er){kk:List UInt8}(iq:kk=lB∨kk=l4∨kk=oo)(hk:e.kind=kk)(hc:jn e.er=0)(il:∀v∈e.values.getD [],0≤v):gO (yY r e) (apply (qe .i64) r.er e.er):=by
 have hR:apply (qe .i64) r.er e.er=kj r.er e.er:=by
  unfold apply
  rw[show e.er.kind=kk from hk,if_neg (by rcases iq with rfl|rfl|rfl<;>decide),if_pos iq]
 rw[hR]
 obtain⟨n0,t,hn⟩:∃n0 t,e.names.getD []=n0::t:=by
  rcases iq with rfl|rfl|rfl
  ·obtain⟨a,c,h⟩:=gP (ki (c:=2) hk rfl hc).1;exact⟨_,_,h⟩
  ·obtain⟨a,c,h⟩:=gP (ki (c:=3) hk rfl hc).1;exact⟨_,_,h⟩
  ·obtain⟨a,h⟩:=jH (ki (c:=1) hk rfl hc).1;exact⟨_,_,h⟩
 cases hp:zr r.er n0 with
 |none=>
  unfold kj
  rw[fc hn,hp]
  unfold yY
  simp only[gM hn,qa,D0 (jk b.P),yV,hp]
  exact⟨_,_,rfl,rfl,by decide⟩
 |some k=>
 obtain⟨p,g1,_,g3⟩:=Eb hp
 have hm:=List.mem_of_getElem? g1
 have hD:=b.D p hm
 have Ie:p.er∈r.er.ae:=by rw[yK];exact G2 hm
 have hkn:=w.aB _ Ie
 have hkt:=w.aA _ Ie
 have TL:zt (·.k) (p.dn.getD []):=hkn.1
 have TM:(p.dn.getD []).length≤16:=hkn.2
 have TN:zt (·.k) (p.dt.getD []):=hkt.1
 have TP:(p.dt.getD []).length≤16:=hkt.2
 rw[L3 (fc hn) hp g3]
 unfold yY
 simp only[gM hn,qa,D0 (jk b.P),yV,hp,Gf,Gd,cond_false,y6,ja g1,jm4 b (vz g1)]
 rcases iq with rfl|rfl|rfl
 ·obtain⟨h1,h2⟩:=ki (a:=2) (c:=2) hk rfl hc
  obtain⟨n0',n1,jD⟩:=gP h1
  obtain⟨v0,v1,hv⟩:=gP h2
  have h0:0≤v1:=il v1 (by rw[hv];simp)
  obtain⟨v,ww,f1,f2⟩:=jmw (x:=⟨n1,v1⟩) (mO hD.2.1) TL h0
  have f2:v.getD []=kw (p.dn.getD []) n1 v1:=f2
  rw[if_pos hk,l6 jD,vt hv]
  simp only[gN hv,gN jD,f1,show decide (e.kind=([110,101,101,100]:List UInt8))=E9 from decide_eq_true hk,cond_true]
  by_cases hz:10000<v1
  ·rw[decide_eq_true hz,if_pos (Or.inr hz)];exact⟨_,_,rfl,rfl,by decide⟩
  ·rw[decide_eq_false hz,if_neg (show ¬(v1<0∨10000<v1) by omega)]
   have dJ:({ r with ae:=En ((r.ae.getD []).set k ⟨p.name,v,p.dt,p.aM⟩) }:ar).er=bR r.er k { p.er with bX:={ p.er.bX with aB:=kw (p.dn.getD []) n1 v1 } }:=by
    rw[Ec rfl]
    congr 1
    simp only[aC.er,f2]
   have hlen:decide (16<((v.getD []).length:Int))=decide (16<(kw (p.dn.getD []) n1 v1).length):=by
    rw[f2]
    by_cases h:16<(kw (p.dn.getD []) n1 v1).length
    ·rw[decide_eq_true h];exact decide_eq_true (by omega)
    ·rw[decide_eq_false h];exact decide_eq_false (by omega)
   have l9:16<(kw (p.dn.getD []) n1 v1).length↔(0<v1∧(!(p.dn.getD []).any (df n1))=E9∧16≤(p.dn.getD []).length):=by
    unfold kw
    by_cases pG:v1=0
    ·rw[if_pos pG]
     have:=List.length_filter_le (fun x=>!df n1 x) (p.dn.getD [])
     constructor
     ·intro h;omega
     ·rintro ⟨h,_⟩;omega
    ·rw[if_neg pG,q2r TM]
     constructor
     ·intro h;exact⟨by omega,h⟩
     ·exact fun h=>h.2
   simp only[cond_false,hlen]
   by_cases nE:16<(kw (p.dn.getD []) n1 v1).length
   ·rw[decide_eq_true nE,if_pos (l9.1 nE)]
    cases ww<;>exact⟨_,_,rfl,rfl,by decide⟩
   ·rw[decide_eq_false nE,if_neg (fun h=>nE (l9.2 h))]
    cases ww<;>exact⟨_,_,rfl,rfl,dJ⟩
 ·obtain⟨h1,h2⟩:=ki (a:=2) (c:=3) hk rfl hc
  obtain⟨n0',n1,jD⟩:=gP h1
  obtain⟨v0,v1,v2,hv⟩:=jtk h2
  obtain⟨v,ww,f1,f2⟩:=jo6 (x:=⟨n1,v1,v2⟩) (mO hD.2.2.1) TN
  have f2:v.getD []=ke (eK n1) ⟨n1,v1,v2⟩ (p.dt.getD []):=f2
  rw[if_neg (show ¬e.kind=lB by rw[hk];decide),if_pos hk,l6 jD,vt hv,vl2 hv]
  simp only[gN hv,jw7 hv,gN jD,f1,show decide (e.kind=([110,101,101,100]:List UInt8))=I from decide_eq_false (by rw[hk];decide),show decide (e.kind=([116,101,115,116]:List UInt8))=E9 from decide_eq_true hk,cond_true,cond_false]
  by_cases hz:v2<v1
  ·rw[decide_eq_true hz,if_pos hz];exact⟨_,_,rfl,rfl,by decide⟩
  ·rw[decide_eq_false hz,if_neg hz]
   have dJ:({ r with ae:=En ((r.ae.getD []).set k ⟨p.name,p.dn,v,p.aM⟩) }:ar).er=bR r.er k { p.er with bX:={ p.er.bX with aA:=ke (eK n1) ⟨n1,v1,v2⟩ (p.dt.getD []) } }:=by
    rw[Ec rfl]
    congr 1
    simp only[aC.er,f2]
   have hlen:decide (16<((v.getD []).length:Int))=decide (16<(ke (eK n1) ⟨n1,v1,v2⟩ (p.dt.getD [])).length):=by
    rw[f2]
    by_cases h:16<(ke (eK n1) ⟨n1,v1,v2⟩ (p.dt.getD [])).length
    ·rw[decide_eq_true h];exact decide_eq_true (by omega)
    ·rw[decide_eq_false h];exact decide_eq_false (by omega)
   have l9:=q2r (p:=eK n1) (x:=(⟨n1,v1,v2⟩:jb)) TP
   simp only[cond_false,hlen]
   by_cases nE:16<(ke (eK n1) ⟨n1,v1,v2⟩ (p.dt.getD [])).length
   ·rw[decide_eq_true nE,if_pos (l9.1 nE)]
    cases ww<;>exact⟨_,_,rfl,rfl,by decide⟩
   ·rw[decide_eq_false nE,if_neg (fun h=>nE (l9.2 h))]
    cases ww<;>exact⟨_,_,rfl,rfl,dJ⟩
 ·rw[if_neg (show ¬e.kind=lB by rw[hk];decide),if_neg (show ¬e.kind=l4 by rw[hk];decide)]
  simp only[show decide (e.kind=([110,101,101,100]:List UInt8))=I from decide_eq_false (by rw[hk];decide),show decide (e.kind=([116,101,115,116]:List UInt8))=I from decide_eq_false (by rw[hk];decide),cond_false,Bj (jk hD.1)]
  rw[D8 (o:=En (p.aM.getD [])) (by have:=mO hD.1;simp only[Ga,Ge];omega) (by simp)]
  have oT:p.er.aM.length=(p.aM.getD []).length:=by show((p.aM.getD []).map aY.er).length=_;rw[Gj]
  have hd:(p.dn.getD []).isEmpty=decide (((p.dn.getD []).length:Int)=0):=by
   cases p.dn.getD []with
   |nil=>rfl
   |cons x l=>simp;omega
  have dJ:({ r with ae:=En ((r.ae.getD []).set k ⟨p.name,p.dn,p.dt,En (p.aM.getD []++[⟨p.dn,p.dt⟩])⟩) }:ar).er=bR r.er k { p.er with aM:=p.er.aM++[p.er.bX] }:=by
   rw[Ec rfl]
   congr 1
   simp only[aC.er,Ga,List.map_append,G3,Hb]
   rfl
  simp only[hd,oT]
  cases decide (((p.dn.getD []).length:Int)=0)with
  |true=>exact⟨_,_,rfl,rfl,by decide⟩
  |false=>
   by_cases h2:100≤(p.aM.getD []).length
   ·simp only[show decide (100≤((p.aM.getD []).length:Int))=E9 from decide_eq_true (by omega),if_pos h2,Es,if_false]
    exact⟨_,_,rfl,rfl,by decide⟩
   ·simp only[show decide (100≤((p.aM.getD []).length:Int))=I from decide_eq_false (by omega),if_neg h2,Es,if_false]
    exact⟨_,_,rfl,rfl,dJ⟩
end Go.Z
namespace Go.Z
open Go Go.Abs Go.W
variable {r:ar}{e:GEv}
theorem TQ {α:Type}(p:α→Bool):∀(l:List α) (c:Bool),l.foldl (fun c x=>if c then E9 else p x) c=(c||l.any p)
 | [],c=>by simp
 |x::l,c=>by
  rw[List.foldl_cons,TQ p l,List.any_cons]
  cases c<;>simp
theorem TR {u}(h:u.aq=I):(⟨u.name,u.product,u.version,u.uses,u.results,u.partner,I,u.ah⟩:bh)=u:=by cases u;simp only at h;rw[h]
theorem j7b (b:GB r)(w:WF r.er)(hk:e.kind=mM)(hc:jn e.er=0){k:Nat}{u n0 n1 v0 v1}(hn:e.names.getD []=[n0,n1])(hv:e.values.getD []=[v0,v1])(h1:(r.units.getD [])[k]?=En u):gO (f263 r (k:Int) e) (pO (qe .i64) r.er k u.er e.er):=by
 obtain⟨D,v,o⟩:=Ef b w h1
 unfold pO
 rw[l6 hn,vt hv,o.Ee]
 unfold f263
 simp only[ja h1,gN hn,gN hv,qa,Hc (jk b.L),yV]
 cases hq:zm r.er n1 with
 |none=>exact⟨_,_,rfl,rfl,by decide⟩
 |some j=>
 obtain⟨x,h4,_⟩:=HS hq
 simp only[Gf,Gd,cond_false,y6,ja h4,wG,h4]
 by_cases hs:u.aq=E9
 ·rw[hs,if_pos (show u.er.aq=E9 from hs)];exact⟨_,_,rfl,rfl,by decide⟩
 rw[if_neg (show ¬u.er.aq=E9 from hs)]
 rw[Gu]at hs
 simp only[TR hs,o.Bp]
 rw[hs]
 simp only[cond_false]
 by_cases hz:v1=0
 ·rw[decide_eq_true hz,if_pos hz];exact⟨_,_,rfl,rfl,by decide⟩
 rw[decide_eq_false hz,if_neg hz]
 simp only[cond_false]
 by_cases hh:x.held=E9
 ·rw[hh];exact⟨_,_,rfl,rfl,by decide⟩
 have RD:x.held=I:=by simpa using hh
 have L:=Hk (D.aB.getD []) (yZ r (k:Int) e u (j:Int) x D) (fun i (c:Bool)=>(c,(i:Int))) (fun c y=>if c then E9 else df x.kind y) (fun c=>(c,((D.aB.getD []).length:Int))) I (fun c=>by unfold yZ;simp only[z6];rfl)
  (fun i c y hy hi=>by
   unfold yZ
   simp only[yo hi,cond_true,qa,ja hy]
   rw[yg (by have:=o.aB;unfold BB at this;omega)]
   cases c<;>rfl)
 rw[TQ,Gm]at L
 have L':bB (yZ r (k:Int) e u (j:Int) x D) (I,0)=En ((D.aB.getD []).any (df x.kind),((D.aB.getD []).length:Int)):=L
 rw[if_neg hh]
 simp only[RD,cond_false,L',G5,show D.er.aB=D.aB.getD []from rfl]
 cases (D.aB.getD []).any (df x.kind)with
 |false=>exact⟨_,_,rfl,rfl,by decide⟩
 |true=>
 simp only[cond_true,Gd,Es,if_false]
 by_cases hl:x.left<v1
 ·rw[decide_eq_true hl,if_pos hl];exact⟨_,_,rfl,rfl,by decide⟩
 rw[decide_eq_false hl,if_neg hl]
 obtain⟨q,wq,q1,q2⟩:=jm8 (o:=u.uses) (k:=x.name) (n:=v1) (mO o.uses) o.keyed
 rw[q1]
 simp only[cond_false,q7l b (vz h4)]
 rw[show(⟨u.name,u.product,u.version,q,u.results,u.partner,I,u.ah⟩:bh)={ u with uses:=q } by rw[←hs]]
 have f16:=Bt (r:={ r with au:=En ((r.au.getD []).set j ⟨x.name,x.kind,x.count,qe .i64 (x.left-v1),I⟩) }) (x:={ u with uses:=q }) b.U (vz h1)
 have dJ:({ r with au:=En ((r.au.getD []).set j ⟨x.name,x.kind,x.count,qe .i64 (x.left-v1),I⟩),units:=En ((r.units.getD []).set k { u with uses:=q }) }:ar).er=ay (b4 r.er j ⟨x.name,x.kind,x.count,qe .i64 (x.left-v1),I⟩) k { u.er with uses:=jP (qe .i64) u.er.uses x.name v1 }:=by
  simp only[ar.er,ay,b4,Ga,H9]
  congr 2
  simp only[bh.er,q2]
 simp only[f16]
 cases wq<;>exact⟨_,_,rfl,rfl,dJ⟩
theorem jqy (b:GB r)(hk:e.kind=nA)(hc:jn e.er=0){k:Nat}{u n0 n1}(hn:e.names.getD []=[n0,n1])(h1:(r.units.getD [])[k]?=En u):gO (f264 r (k:Int) e) (pP r.er k u.er e.er):=by
 unfold pP
 rw[l6 hn]
 unfold f264
 simp only[ja h1,gN hn,qa,LM (jk b.U),yV]
 cases hq:zp r.er n1 with
 |none=>exact⟨_,_,rfl,rfl,by decide⟩
 |some j=>
 obtain⟨v,h4,_,h5⟩:=rL hq
 rw[y6]
 simp only[Gf,Gd,cond_false,ja h4,h5]
 by_cases c1:k=j
 ·rw[if_pos c1,@decide_eq_true ((j:Int)=(k:Int)) _ (by omega)];exact⟨_,_,rfl,rfl,by decide⟩
 rw[if_neg c1,@decide_eq_false ((j:Int)=(k:Int)) _ (by omega)]
 simp only[cond_false]
 by_cases c2:u.product=v.product
 case neg=>rw[decide_eq_false c2,if_pos (show u.er.product≠v.er.product∨u.er.version≠v.er.version from Or.inl c2)];exact⟨_,_,rfl,rfl,by decide⟩
 by_cases cH:u.version=v.version
 case neg=>rw[decide_eq_true c2,decide_eq_false cH,if_pos (show u.er.product≠v.er.product∨u.er.version≠v.er.version from Or.inr cH)];exact⟨_,_,rfl,rfl,by decide⟩
 rw[if_neg (show ¬(u.er.product≠v.er.product∨u.er.version≠v.er.version)from fun h=>h.elim (fun h=>h c2) (fun h=>h cH)),decide_eq_true c2,decide_eq_true cH]
 simp only[cond_true]
 by_cases fe:u.aq=E9
 ·rw[if_pos (show u.er.aq=E9∨v.er.aq=E9 from Or.inl fe),fe];exact⟨_,_,rfl,rfl,by decide⟩
 by_cases cD:v.aq=E9
 ·rw[if_pos (show u.er.aq=E9∨v.er.aq=E9 from Or.inr cD)]
  have lf:u.aq=I:=by simpa using fe
  rw[lf,cD];exact⟨_,_,rfl,rfl,by decide⟩
 have lf:u.aq=I:=by simpa using fe
 have rN:v.aq=I:=by simpa using cD
 rw[if_neg (show ¬(u.er.aq=E9∨v.er.aq=E9)from fun h=>h.elim fe cD)]
 have f1:=Bt (r:=r) (x:={ u with partner:=v.name }) b.U (vz h1)
 have f2:=Bt (r:={ r with units:=En ((r.units.getD []).set k { u with partner:=v.name }) }) (k:=j) (x:={ v with partner:=u.name }) (by rw[Ga,Gx];exact b.U) (by rw[Ga,Gx];exact vz h4)
 have dJ:({ r with units:=En (((r.units.getD []).set k { u with partner:=v.name }).set j { v with partner:=u.name }) }:ar).er=ay (ay r.er k { u.er with partner:=v.er.name }) j { v.er with partner:=u.er.name }:=by
  simp only[ar.er,ay,Ga,H9]
  rfl
 rw[show(⟨u.name,u.product,u.version,u.uses,u.results,v.name,I,u.ah⟩:bh)={ u with partner:=v.name } by rw[←lf],show(⟨v.name,v.product,v.version,v.uses,v.results,u.name,I,v.ah⟩:bh)={ v with partner:=u.name } by rw[←rN]]
 simp only[f1,f2]
 rw[lf,rN]at dJ ⊢
 simp only[cond_false]
 by_cases eh:u.partner=[]
 case neg=>rw[if_pos (show u.er.partner≠[]∨v.er.partner≠[]from Or.inl eh),decide_eq_false eh];exact⟨_,_,rfl,rfl,by decide⟩
 by_cases mP:v.partner=[]
 case neg=>rw[if_pos (show u.er.partner≠[]∨v.er.partner≠[]from Or.inr mP),decide_eq_true eh,decide_eq_false mP];exact⟨_,_,rfl,rfl,by decide⟩
 rw[if_neg (show ¬(u.er.partner≠[]∨v.er.partner≠[])from fun h=>h.elim (fun h=>h eh) (fun h=>h mP)),decide_eq_true eh,decide_eq_true mP]
 exact⟨_,_,rfl,rfl,dJ⟩
theorem El (b:GB r)(w:WF r.er){kk:List UInt8}(iq:kk=mM∨kk=nA∨kk=oR∨kk=pJ∨kk=yw∨kk=yJ)(hk:e.kind=kk)(hc:jn e.er=0):gO (Em r e) (apply (qe .i64) r.er e.er):=by
 rw[kD hk (by rcases iq with rfl|rfl|rfl|rfl|rfl|rfl<;>decide) (by rcases iq with rfl|rfl|rfl|rfl|rfl|rfl<;>decide),if_neg (by rcases iq with rfl|rfl|rfl|rfl|rfl|rfl<;>decide)]
 obtain⟨n0,t,hn⟩:∃n0 t,e.names.getD []=n0::t:=by
  rcases iq with rfl|rfl|rfl|rfl|rfl|rfl
  ·obtain⟨a,c,h⟩:=gP (ki (c:=2) hk rfl hc).1;exact⟨_,_,h⟩
  ·obtain⟨a,c,h⟩:=gP (ki (c:=1) hk rfl hc).1;exact⟨_,_,h⟩
  ·obtain⟨a,c,h⟩:=gP (ki (c:=2) hk rfl hc).1;exact⟨_,_,h⟩
  ·obtain⟨a,h⟩:=jH (ki (c:=1) hk rfl hc).1;exact⟨_,_,h⟩
  ·obtain⟨a,h⟩:=jH (ki (c:=1) hk rfl hc).1;exact⟨_,_,h⟩
  ·obtain⟨a,h⟩:=jH (ki (c:=1) hk rfl hc).1;exact⟨_,_,h⟩
 cases hp:zp r.er n0 with
 |none=>
  unfold l8
  rw[fc hn,hp]
  unfold Em
  simp only[gM hn,qa,LM (jk b.U),yV,hp]
  exact⟨_,_,rfl,rfl,by decide⟩
 |some k=>
 obtain⟨u,h1,_,h3⟩:=rL hp
 obtain⟨D,v,o⟩:=Ef b w h1
 rw[wH (fc hn) hp h3]
 unfold Em
 simp only[gM hn,qa,LM (jk b.U),yV,hp,Gf,Gd,cond_false,y6,ja h1]
 rcases iq with rfl|rfl|rfl|rfl|rfl|rfl
 ·obtain⟨g1,g2⟩:=ki (a:=2) (c:=2) hk rfl hc
  obtain⟨a,c,jD⟩:=gP g1
  obtain⟨v0,v1,hv⟩:=gP g2
  rw[if_pos hk,show decide (e.kind=([117,115,101]:List UInt8))=E9 from decide_eq_true hk]
  obtain⟨r',cc,q1,q2⟩:=j7b b w hk hc jD hv h1
  simp only[cond_true,q1]
  exact⟨_,_,rfl,q2⟩
 ·obtain⟨g1,g2⟩:=ki (a:=2) (c:=1) hk rfl hc
  obtain⟨a,c,jD⟩:=gP g1
  rw[if_neg (show ¬e.kind=mM by rw[hk];decide),if_pos hk,show decide (e.kind=([117,115,101]:List UInt8))=I from decide_eq_false (by rw[hk];decide),show decide (e.kind=([112,97,105,114]:List UInt8))=E9 from decide_eq_true hk]
  obtain⟨r',cc,q1,q2⟩:=jqy b hk hc jD h1
  simp only[cond_true,cond_false,q1]
  exact⟨_,_,rfl,q2⟩
 ·obtain⟨g1,g2⟩:=ki (a:=2) (c:=2) hk rfl hc
  obtain⟨a,n1,jD⟩:=gP g1
  obtain⟨v0,v1,hv⟩:=gP g2
  rw[if_neg (show ¬e.kind=mM by rw[hk];decide),if_neg (show ¬e.kind=nA by rw[hk];decide),if_pos hk,show decide (e.kind=([117,115,101]:List UInt8))=I from decide_eq_false (by rw[hk];decide),show decide (e.kind=([112,97,105,114]:List UInt8))=I from decide_eq_false (by rw[hk];decide),show decide (e.kind=([109,101,97,115,117,114,101]:List UInt8))=E9 from decide_eq_true hk,l6 jD,vt hv,o.Ee]
  simp only[cond_true,cond_false]
  by_cases hs:u.aq=E9
  ·rw[hs];exact⟨_,_,rfl,rfl,by decide⟩
  have gW:u.aq=I:=by simpa using hs
  have L:=Hk (D.aA.getD []) (zA r e (k:Int) u D) (fun i (c:Bool)=>(c,(i:Int))) (fun c y=>if c then E9 else eK n1 y) (fun c=>(c,((D.aA.getD []).length:Int))) I (fun c=>by unfold zA;simp only[z6];rfl)
   (fun i c y hy hi=>by
    unfold zA
    simp only[yo hi,cond_true,qa,ja hy,gN jD]
    rw[yg (by have:=o.aA;unfold BB at this;omega)]
    cases c<;>rfl)
  rw[TQ,Gm]at L
  have L':bB (zA r e (k:Int) u D) (I,0)=En ((D.aA.getD []).any (eK n1),((D.aA.getD []).length:Int)):=L
  rw[if_neg hs]
  simp only[TR gW,o.Bp,L',gN jD,gN hv,Bj (jk o.results)]
  rw[gW,D8 (o:=En (u.results.getD [])) (by have:=mO o.results;simp only[Ga,Ge];omega) (by simp)]
  simp only[cond_false,G5,show D.er.aA=D.aA.getD []from rfl]
  cases (D.aA.getD []).any (eK n1)with
  |false=>exact⟨_,_,rfl,rfl,by decide⟩
  |true=>
   have f16:=Bt (r:=r) (x:={ u with results:=En (u.results.getD []++[⟨n1,u.version,v1⟩]) }) b.U (vz h1)
   have dJ:({ r with units:=En ((r.units.getD []).set k { u with results:=En (u.results.getD []++[⟨n1,u.version,v1⟩]) }) }:ar).er=ay r.er k { u.er with results:=u.results.getD []++[⟨n1,u.version,v1⟩] }:=by rw[yU rfl];rfl
   rw[gW]at f16
   by_cases h2:64≤(u.results.getD []).length
   ·simp only[show decide (64≤((u.results.getD []).length:Int))=E9 from decide_eq_true (by omega),if_pos h2,Gd,Es,if_false,cond_true]
    exact⟨_,_,rfl,rfl,by decide⟩
   ·simp only[show decide (64≤((u.results.getD []).length:Int))=I from decide_eq_false (by omega),if_neg h2,Gd,Es,if_false,cond_true,cond_false,Ga,f16]
    rw[gW]at dJ
    exact⟨_,_,rfl,rfl,dJ⟩
 ·rw[if_neg (show ¬e.kind=mM by rw[hk];decide),if_neg (show ¬e.kind=nA by rw[hk];decide),if_neg (show ¬e.kind=oR by rw[hk];decide),if_pos hk,show decide (e.kind=([117,115,101]:List UInt8))=I from decide_eq_false (by rw[hk];decide),show decide (e.kind=([112,97,105,114]:List UInt8))=I from decide_eq_false (by rw[hk];decide),show decide (e.kind=([109,101,97,115,117,114,101]:List UInt8))=I from decide_eq_false (by rw[hk];decide),show decide (e.kind=([117,112,100,97,116,101]:List UInt8))=E9 from decide_eq_true hk,o.new]
  simp only[cond_true,cond_false]
  by_cases hs:u.aq=E9
  ·rw[hs];exact⟨_,_,rfl,rfl,by decide⟩
  have gW:u.aq=I:=by simpa using hs
  rw[if_neg hs]
  have f16:=Bt (r:=r) (x:={ u with version:=v }) b.U (vz h1)
  have dJ:({ r with units:=En ((r.units.getD []).set k { u with version:=v }) }:ar).er=ay r.er k { u.er with version:=v }:=by rw[yU rfl];rfl
  rw[gW]at f16 dJ
  simp only[TR gW,(LO (jk b.P) o.new).2,f16]
  rw[gW]
  simp only[cond_false]
  by_cases h:u.version=v
  ·rw[decide_eq_true h,if_pos h];exact⟨_,_,rfl,rfl,by decide⟩
  ·rw[decide_eq_false h,if_neg h];exact⟨_,_,rfl,rfl,dJ⟩
 ·rw[if_neg (show ¬e.kind=mM by rw[hk];decide),if_neg (show ¬e.kind=nA by rw[hk];decide),if_neg (show ¬e.kind=oR by rw[hk];decide),if_neg (show ¬e.kind=pJ by rw[hk];decide),if_pos hk,show decide (e.kind=([117,115,101]:List UInt8))=I from decide_eq_false (by rw[hk];decide),show decide (e.kind=([112,97,105,114]:List UInt8))=I from decide_eq_false (by rw[hk];decide),show decide (e.kind=([109,101,97,115,117,114,101]:List UInt8))=I from decide_eq_false (by rw[hk];decide),show decide (e.kind=([117,112,100,97,116,101]:List UInt8))=I from decide_eq_false (by rw[hk];decide),show decide (e.kind=([115,104,105,112]:List UInt8))=E9 from decide_eq_true hk]
  have g2:=jpl (jk b.P) o.new (jk b.L) (jk o.uses) o.au o.Bp o.Ee (jk o.aB) (jk o.results) (jk o.aA)
  have f16:=Bt (r:=r) (x:={ u with aq:=E9 }) b.U (vz h1)
  simp only[cond_true,cond_false,g2,f16]
  by_cases h:vr (qe .i64) r.er u.er=0
  ·rw[decide_eq_true h,if_neg (fun hh=>hh h)];exact⟨_,_,rfl,rfl,yU rfl⟩
  ·rw[decide_eq_false h,if_pos h];exact⟨_,_,rfl,rfl,h⟩
 ·rw[if_neg (show ¬e.kind=mM by rw[hk];decide),if_neg (show ¬e.kind=nA by rw[hk];decide),if_neg (show ¬e.kind=oR by rw[hk];decide),if_neg (show ¬e.kind=pJ by rw[hk];decide),if_neg (show ¬e.kind=yw by rw[hk];decide),show decide (e.kind=([117,115,101]:List UInt8))=I from decide_eq_false (by rw[hk];decide),show decide (e.kind=([112,97,105,114]:List UInt8))=I from decide_eq_false (by rw[hk];decide),show decide (e.kind=([109,101,97,115,117,114,101]:List UInt8))=I from decide_eq_false (by rw[hk];decide),show decide (e.kind=([117,112,100,97,116,101]:List UInt8))=I from decide_eq_false (by rw[hk];decide),show decide (e.kind=([115,104,105,112]:List UInt8))=I from decide_eq_false (by rw[hk];decide)]
  have f16:=Bt (r:=r) (x:={ u with ah:=qe .i64 (u.ah+1) }) b.U (vz h1)
  have dJ:({ r with units:=En ((r.units.getD []).set k { u with ah:=qe .i64 (u.ah+1) }) }:ar).er=ay r.er k { u.er with ah:=qe .i64 (u.ah+1) }:=by rw[yU rfl];rfl
  simp only[cond_false]
  by_cases hs:u.aq=E9
  ·rw[hs]at f16 dJ ⊢
   simp only[f16]
   exact⟨_,_,rfl,rfl,dJ⟩
  ·have gW:u.aq=I:=by simpa using hs
   rw[gW]
   exact⟨_,_,rfl,rfl,by decide⟩
end Go.Z
namespace Go.Z
open Go Go.Abs Go.W
variable {r:ar}{e:GEv}
def zim (v0:Int):pN→pN
 | .error k=>.error k
 | .ok s=>.ok { s with day:=v0 }
theorem oA {v0 x y}(h:gO x y):gO (qa x fun v=>En (⟨v0,v.1.au,v.1.ae,v.1.units⟩,v.2)) (zim v0 y):=by
 obtain⟨r',c,rfl,h2⟩:=h
 cases y with
 |error k=>exact⟨_,_,rfl,h2⟩
 |ok s=>exact⟨_,_,rfl,h2.1,by rw[←h2.2];rfl⟩
theorem jn9 (b:GB r)(w:WF r.er)(hc:jn e.er=0)(hu:e.kind≠y8)(il:∀v∈e.values.getD [],0≤v):gO (Ig r e) (after (qe .i64) r.er e.er):=by
 obtain⟨_,f,h1,ig,oc⟩:=Ic hc
 have hm:(e.kind,f.1,f.2)∈cQ:=by
  unfold ye at h1
  cases hf:cQ.find? (fun x=>decide (x.1=e.er.kind))with
  |none=>rw[hf]at h1;cases h1
  |some x=>
   rw[hf]at h1
   have h2:=List.find?_some hf
   have h3:=List.mem_of_find?_eq_some hf
   have h4:x.1=e.kind:=of_decide_eq_true h2
   have h5:x.2=f:=by simpa using h1
   rw[←h4,←h5];exact h3
 have gI:∃v0 t,e.values.getD []=v0::t:=by
  have:(e.values.getD []).length=f.2:=oc
  cases hv:e.values.getD []with
  |cons v t=>exact⟨v,t,rfl⟩
  |nil=>
   rw[hv]at this
   simp only[cQ,Ha,Prod.mk.injEq,G4,or_false]at hm
   simp only[List.length_nil]at this
   rcases hm with h|h|h|h|h|h|h|h|h|h|h|h|h|h|h<;>first|(exfalso;omega)|exact absurd h.1 hu
 obtain⟨v0,t,hv⟩:=gI
 unfold Ig after
 rw[gM hv,Tx hv]
 simp only[qa]
 by_cases hd:v0<r.day
 ·rw[decide_eq_true hd,if_pos (show v0<r.er.day from hd)]
  exact⟨_,_,rfl,rfl,by decide⟩
 rw[decide_eq_false hd,if_neg (show ¬v0<r.er.day from hd)]
 have zB:e.kind∈cQ.map (·.1):=G2 (f:=(·.1)) hm
 simp only[cQ,G3,Hb,Ha,List.mem_singleton,G4,or_false]at zB
 have nk:∀ {k k':List UInt8},e.kind=k→decide (k=k')=I→decide (e.kind=k')=I:=by
  intro k k' h h2;rw[h];exact h2
 have yk:∀ {k:List UInt8},e.kind=k→decide (e.kind=k)=E9:=fun h=>decide_eq_true h
 simp only[cond_false]
 rcases zB with h|h|h|h|h|h|h|h|h|h|h|h|h|h|h
 ·have q:=oA (v0:=v0) (j4e b h hc)
  rw[show decide (e.kind=([108,111,116]:List UInt8))=E9 from yk h]
  exact q
 ·have q:=oA (v0:=v0) (jcs b h hc)
  rw[show decide (e.kind=([108,111,116]:List UInt8))=I from nk h rfl,show decide (e.kind=([112,114,111,100,117,99,116]:List UInt8))=E9 from yk h]
  exact q
 ·have q:=oA (v0:=v0) (TK b w (.inl rfl) h hc il)
  rw[show decide (e.kind=([108,111,116]:List UInt8))=I from nk h rfl,show decide (e.kind=([112,114,111,100,117,99,116]:List UInt8))=I from nk h rfl,show decide (e.kind=([98,117,105,108,100]:List UInt8))=I from nk h rfl,show decide (e.kind=([110,101,101,100]:List UInt8))=E9 from yk h]
  exact q
 ·have q:=oA (v0:=v0) (TK b w (.inr (.inl rfl)) h hc il)
  rw[show decide (e.kind=([108,111,116]:List UInt8))=I from nk h rfl,show decide (e.kind=([112,114,111,100,117,99,116]:List UInt8))=I from nk h rfl,show decide (e.kind=([98,117,105,108,100]:List UInt8))=I from nk h rfl,show decide (e.kind=([110,101,101,100]:List UInt8))=I from nk h rfl,show decide (e.kind=([116,101,115,116]:List UInt8))=E9 from yk h]
  exact q
 ·have q:=oA (v0:=v0) (TK b w (.inr (.inr rfl)) h hc il)
  rw[show decide (e.kind=([108,111,116]:List UInt8))=I from nk h rfl,show decide (e.kind=([112,114,111,100,117,99,116]:List UInt8))=I from nk h rfl,show decide (e.kind=([98,117,105,108,100]:List UInt8))=I from nk h rfl,show decide (e.kind=([110,101,101,100]:List UInt8))=I from nk h rfl,show decide (e.kind=([116,101,115,116]:List UInt8))=I from nk h rfl,show decide (e.kind=([105,115,115,117,101]:List UInt8))=E9 from yk h]
  exact q
 ·have q:=oA (v0:=v0) (jm9 b h hc)
  rw[show decide (e.kind=([108,111,116]:List UInt8))=I from nk h rfl,show decide (e.kind=([112,114,111,100,117,99,116]:List UInt8))=I from nk h rfl,show decide (e.kind=([98,117,105,108,100]:List UInt8))=E9 from yk h]
  exact q
 all_goals try rw[show decide (e.kind=([108,111,116]:List UInt8))=I from nk h rfl,show decide (e.kind=([112,114,111,100,117,99,116]:List UInt8))=I from nk h rfl,show decide (e.kind=([98,117,105,108,100]:List UInt8))=I from nk h rfl,show decide (e.kind=([110,101,101,100]:List UInt8))=I from nk h rfl,show decide (e.kind=([116,101,115,116]:List UInt8))=I from nk h rfl,show decide (e.kind=([105,115,115,117,101]:List UInt8))=I from nk h rfl]
 ·rw[show decide (e.kind=([104,111,108,100]:List UInt8))=I from nk h rfl,show decide (e.kind=([102,114,101,101]:List UInt8))=I from nk h rfl]
  exact oA (v0:=v0) (El b w (by simp) h hc)
 ·rw[show decide (e.kind=([104,111,108,100]:List UInt8))=I from nk h rfl,show decide (e.kind=([102,114,101,101]:List UInt8))=I from nk h rfl]
  exact oA (v0:=v0) (El b w (by simp) h hc)
 ·rw[show decide (e.kind=([104,111,108,100]:List UInt8))=I from nk h rfl,show decide (e.kind=([102,114,101,101]:List UInt8))=I from nk h rfl]
  exact oA (v0:=v0) (El b w (by simp) h hc)
 ·rw[show decide (e.kind=([104,111,108,100]:List UInt8))=I from nk h rfl,show decide (e.kind=([102,114,101,101]:List UInt8))=I from nk h rfl]
  exact oA (v0:=v0) (El b w (by simp) h hc)
 ·rw[show decide (e.kind=([104,111,108,100]:List UInt8))=E9 from yk h]
  exact oA (v0:=v0) (jei b E9 h hc)
 ·rw[show decide (e.kind=([104,111,108,100]:List UInt8))=I from nk h rfl,show decide (e.kind=([102,114,101,101]:List UInt8))=E9 from yk h]
  exact oA (v0:=v0) (jei b I h hc)
 ·rw[show decide (e.kind=([104,111,108,100]:List UInt8))=I from nk h rfl,show decide (e.kind=([102,114,101,101]:List UInt8))=I from nk h rfl]
  exact oA (v0:=v0) (El b w (by simp) h hc)
 ·rw[show decide (e.kind=([104,111,108,100]:List UInt8))=I from nk h rfl,show decide (e.kind=([102,114,101,101]:List UInt8))=I from nk h rfl]
  exact oA (v0:=v0) (El b w (by simp) h hc)
 ·exact absurd h hu
end Go.Z
namespace Go.Z
open Go Go.Abs Go.W
def Ih (s:List UInt8):Bool:=decide (s≠[])&&decide (s.length≤24)&&vA 0 s
theorem qov {s:List UInt8}{i c}(hc:s[i]?=En c):vA i (s.drop i)=(oV i c.toNat&&vA (i+1) (s.drop (i+1))):=by
 rw[rJ hc];rfl
theorem jv1 {s:List UInt8}:f90 s=En (Ih s):=by
 unfold f90 Ih
 by_cases h0:s=[]
 ·subst h0;rfl
 have hl:¬((s.length:Int)=0):=by
  intro h
  exact h0 (List.eq_nil_of_length_eq_zero (by omega))
 by_cases h1:(24:Int)<s.length
 ·have h2:¬s.length≤24:=by omega
  simp[hl,h0,h1,h2]
 ·have h2:s.length≤24:=by omega
  obtain⟨d,g1,g2⟩:=G9 s.length (fun i=>(i:Int)) (zC s) (fun d=>match d with | .inl _=>I | .inr _=>E9) (fun i=>vA i (s.drop i)) ⟨.inr _,by unfold zC;rw[z6];rfl,by rw[Gy (Nat.le_refl _)];rfl⟩ (fun i hi=>by
   obtain⟨c,hc⟩:∃c,s[i]?=En c:=⟨_,Gt hi⟩
   unfold zC
   rw[qov hc,yo hi,cond_true,ja hc,TS]
   simp only[jd9 hi (show s.length≤9223372036854775807 by omega)]
   unfold oV
   have hx:0≤(c.toNat:Int):=by omega
   generalize (c.toNat:Int)=x at hx ⊢
   by_cases z:i=0
   ·subst z
    rcases kinds x with h|h|h|h|h|h|h|h|h <;>
     simp (disch:=omega) only[decide_eq_true,decide_eq_false,cond_true,cond_false,Gp,Gm,Gv,Gs,Gn,Gl] <;>
     first
      |exact .inl ⟨trivial,trivial⟩
      |exact .inl ⟨rfl,trivial⟩
      |exact .inl ⟨rfl,rfl⟩
      |exact .inr ⟨_,rfl,rfl⟩
   ·rcases kinds x with h|h|h|h|h|h|h|h|h <;>
     simp (disch:=omega) only[decide_eq_true,decide_eq_false,cond_true,cond_false,Gp,If,Gm,Gv,Gs,Gn,Gl] <;>
     first
      |exact .inl ⟨trivial,trivial⟩
      |exact .inl ⟨rfl,trivial⟩
      |exact .inl ⟨rfl,rfl⟩
      |exact .inr ⟨_,rfl,rfl⟩)
  have g1:bB (zC s) 0=En d:=g1
  rw[decide_eq_false hl,cond_false,decide_eq_false h1,cond_false,g1,TS]
  simp only[h0,h2,ne_eq,not_false_eq_true,decide_true,Gn]
  rw[G7]at g2
  rw[←g2]
  cases d<;>rfl
theorem qvx {s i c}(hc:s[i]?=En c):(c.toNat<128∧qn s i=(c.toNat,1))∨(128≤c.toNat∧128≤(qn s i).1):=by
 by_cases h:c.toNat<128
 ·exact .inl ⟨h,jdl hc h⟩
 ·exact .inr ⟨by omega,jeq hc h⟩
theorem qze {i x}(h:128≤x):oV i x=I:=by
 unfold oV
 simp (disch:=omega) only[decide_eq_false,Bool.or_self,Gz]
def zhu:Nat→Option Nat
 |0=>none
 |i+1=>En (i+1)
theorem jt1 {s:List UInt8}:f81 s=En (Ih s):=by
 unfold f81
 obtain⟨d,g1,g2⟩:=G9 s.length zhu (Ii s) (fun d=>match d with | .inl _=>I | .inr _=>E9) (fun i=>vA i (s.drop i)) (by
   rw[Gy (Nat.le_refl _)]
   cases hn:s.length with
   |zero=>
    refine⟨.inr 0,?_,rfl⟩
    show zD s=_
    unfold zD
    rw[hn];rfl
   |succ n=>
    refine⟨.inr (n+1),?_,rfl⟩
    show zE s (n+1)=_
    unfold zE
    rw[hn,decide_eq_false (by omega)];rfl) (fun i hi=>by
   obtain⟨c,hc⟩:∃c,s[i]?=En c:=⟨_,Gt hi⟩
   rw[qov hc]
   cases i with
   |zero=>
    show(zD s=_∧_)∨(∃d,zD s=_∧_)
    unfold zD
    rw[decide_eq_true hi,cond_true]
    rcases qvx hc with⟨bz,he⟩|⟨uQ,hr⟩
    ·rw[he]
     simp only[]
     have hx:0≤(c.toNat:Int):=by omega
     unfold oV
     generalize (c.toNat:Int)=x at hx ⊢
     rcases kinds x with h|h|h|h|h|h|h|h|h <;>
      simp (disch:=omega) only[decide_eq_true,decide_eq_false,cond_true,cond_false,Gp,Gm,Gv,Gs,Gn,Gl] <;>
      first
       |exact .inl ⟨trivial,trivial⟩
       |exact .inl ⟨rfl,trivial⟩
       |exact .inl ⟨rfl,rfl⟩
       |exact .inr ⟨_,rfl,rfl⟩
    ·rw[qze (by omega)]
     generalize hd:qn s 0=dd at hr ⊢
     have jW:(128:Int)≤(dd.1:Int):=by omega
     generalize (dd.1:Int)=x at jW ⊢
     simp (disch:=omega) only[decide_eq_true,decide_eq_false,cond_true,cond_false,Gl]
     exact .inr ⟨_,rfl,rfl⟩
   |succ i=>
    show(zE s (i+1)=_∧_)∨(∃d,zE s (i+1)=_∧_)
    unfold zE
    rw[decide_eq_true hi,cond_true]
    rcases qvx hc with⟨bz,he⟩|⟨uQ,hr⟩
    ·rw[he]
     simp only[]
     have hx:0≤(c.toNat:Int):=by omega
     unfold oV
     generalize (c.toNat:Int)=x at hx ⊢
     have e0:decide (((i+1:Nat):Int)=0)=I:=decide_eq_false (by omega)
     rcases kinds x with h|h|h|h|h|h|h|h|h <;>
      simp (disch:=omega) only[e0,decide_eq_true,decide_eq_false,cond_true,cond_false,Gp,If,Gm,Gv,Gs,Gn,Gl] <;>
      first
       |exact .inl ⟨trivial,trivial⟩
       |exact .inl ⟨rfl,trivial⟩
       |exact .inl ⟨rfl,rfl⟩
       |exact .inr ⟨_,rfl,rfl⟩
    ·rw[qze (by omega)]
     generalize hd:qn s (i+1)=dd at hr ⊢
     have jW:(128:Int)≤(dd.1:Int):=by omega
     have e0:decide (((i+1:Nat):Int)=0)=I:=decide_eq_false (by omega)
     generalize (dd.1:Int)=x at jW ⊢
     simp (disch:=omega) only[e0,decide_eq_true,decide_eq_false,cond_true,cond_false,Gl]
     exact .inr ⟨_,rfl,rfl⟩)
 have g1:bB (Ii s) none=En d:=g1
 rw[g1,TS]
 unfold Ih
 rw[G7]at g2
 cases d with
 |inl d=>simp only[]at g2;rw[←g2];simp
 |inr d=>
  simp only[]at g2
  rw[←g2]
  by_cases h0:s=[]
  ·subst h0;rfl
  ·have e:decide ((s.length:Int)≤24)=decide (s.length≤24):=by by_cases h:s.length≤24<;>simp[h]<;>omega
   rw[e]
   simp[h0]
theorem q64 {c}:oV 0 (c.toNat:Int)=vB c:=by
 unfold oV vB
 have h:∀a b:Nat,(decide ((a:Int)≤(c.toNat:Int)∧(c.toNat:Int)≤(b:Int)))=(decide (a≤c.toNat)&&decide (c.toNat≤b)):=by
  intro a b
  by_cases h1:a≤c.toNat<;>by_cases h2:c.toNat≤b<;>simp[h1,h2]<;>omega
 rw[show(65:Int)=((65:Nat):Int)from rfl,show(90:Int)=((90:Nat):Int)from rfl,show(97:Int)=((97:Nat):Int)from rfl,show(122:Int)=((122:Nat):Int)from rfl,h,h]
 simp
theorem jqh {c i}:oV (i+1) (c.toNat:Int)=(vB c||Eo c):=by
 rw[←q64]
 unfold oV Eo
 have h:(decide ((48:Int)≤(c.toNat:Int)∧(c.toNat:Int)≤(57:Int)))=(decide (48≤c.toNat)&&decide (c.toNat≤57)):=by
  by_cases h1:48≤c.toNat<;>by_cases h2:c.toNat≤57<;>simp[h1,h2]<;>omega
 have h3:decide ((c.toNat:Int)=95)=decide (c.toNat=95):=by
  by_cases h1:c.toNat=95
  ·rw[decide_eq_true h1];exact decide_eq_true (by omega)
  ·rw[decide_eq_false h1];exact decide_eq_false (by omega)
 rw[h,h3]
 simp
theorem q41:∀ (s:List UInt8) (i:Nat),vA (i+1) s=s.all fun c=>vB c||Eo c
 | [],_=>rfl
 |c::s,i=>by
  show(oV (i+1) c.toNat&&vA (i+1+1) s)=_
  rw[jqh,q41 s (i+1)];rfl
theorem que {s}:Ih s=Go.W.dm s:=by
 cases s with
 |nil=>rfl
 |cons c t=>
  show(decide (c::t≠[])&&decide ((c::t).length≤24)&&(oV 0 c.toNat&&vA 1 t))=(vB c&&t.all (fun c=>vB c||Eo c)&&decide ((c::t).length≤24))
  rw[q64,q41 t 0,show decide (c::t≠[])=E9 from decide_eq_true (by simp)]
  cases vB c<;>cases t.all (fun c=>vB c||Eo c)<;>cases decide ((c::t).length≤24)<;>rfl
variable {e:GEv}
theorem jo0 {s}:Ep s=En (if Go.W.dm s then 0 else 8):=by
 unfold Ep
 rw[jt1,que]
 simp only[qa,lD]
 cases Go.W.dm s<;>rfl
theorem TT {α:Type}{p c}(hc:c≠0):∀l:List α,fF (l.map fun x=>if p x then 0 else c)=if l.all p then 0 else c
 | []=>rfl
 |x::l=>by
  rw[G3,List.all_cons]
  cases p x with
  |true=>simp only[if_true,fF,Gn];exact TT hc l
  |false=>simp[fF,hc]
theorem q7n {o}(hl:(o.getD []).length≤SM):f46 o=En (fF (o.getD [])):=by
 cases o with
 |none=>exact jG (l:=[]) (Nat.zero_le _)
 |some l=>exact jG hl
theorem jn0 {o}(hl:(o.getD []).length≤SM):∃w,Ij o=En (jx ((o.getD []).map fun s=>if Go.W.dm s then 0 else 8),w):=by
 unfold Ij
 rw[Tp (f:=Ik o) (l:=o.getD []) (g:=fun s=>if Go.W.dm s then(0:Int)else 8) (q:=Ep) hl (fun x _=>jo0) (fun s=>rfl)]
 exact⟨_,rfl⟩
def rO (n:Int):Bool:=decide (0≤n)&&decide (n≤999999999)
theorem jn2 {n}:Er n=En (if rO n then 0 else 3):=by
 unfold Er
 rw[L0]
 simp only[qa]
 unfold rO
 by_cases h1:n<0
 ·rw[if_pos (Or.inl h1),decide_eq_false (by omega)];rfl
 ·by_cases h2:999999999<n
  ·rw[if_pos (Or.inr h2),decide_eq_true (by omega),decide_eq_false (by omega)];rfl
  ·rw[if_neg (by omega),decide_eq_true (by omega),decide_eq_true (by omega)];rfl
theorem jpo {o}(hl:(o.getD []).length≤SM):∃w,Il o=En (jx ((o.getD []).map fun s=>if rO s then 0 else 3),w):=by
 unfold Il
 rw[Tp (f:=Io o) (l:=o.getD []) (g:=fun s=>if rO s then(0:Int)else 3) (q:=Er) hl (fun x _=>jn2) (fun s=>rfl)]
 exact⟨_,rfl⟩
theorem jbj:∀ (k:List UInt8),oS k=none∧ye k=none∨∃f,oS k=En f∧ye k=En (f.2.1.length,f.2.2.1.toNat)∧0≤f.2.2.1:=by
 intro k
 unfold oS ye iV cQ
 simp only[G6,List.find?_nil,eq_comm (a:=k)]
 by_cases h1:lA=k
 ·simp[h1]
 by_cases h2:kl=k
 ·simp[h1,h2]
 by_cases h3:lB=k
 ·simp[h1,h2,h3]
 by_cases h4:l4=k
 ·simp[h1,h2,h3,h4]
 by_cases h5:oo=k
 ·simp[h1,h2,h3,h4,h5]
 by_cases h6:lC=k
 ·simp[h1,h2,h3,h4,h5,h6]
 by_cases h7:mM=k
 ·simp[h1,h2,h3,h4,h5,h6,h7]
 by_cases h8:oR=k
 ·simp[h1,h2,h3,h4,h5,h6,h7,h8]
 by_cases h9:pJ=k
 ·simp[h1,h2,h3,h4,h5,h6,h7,h8,h9]
 by_cases lg:nA=k
 ·simp[h1,h2,h3,h4,h5,h6,h7,h8,h9,lg]
 by_cases oB:yp=k
 ·simp[h1,h2,h3,h4,h5,h6,h7,h8,h9,lg,oB]
 by_cases mb:kg=k
 ·simp[h1,h2,h3,h4,h5,h6,h7,h8,h9,lg,oB,mb]
 by_cases pR:yw=k
 ·simp[h1,h2,h3,h4,h5,h6,h7,h8,h9,lg,oB,mb,pR]
 by_cases nF:yJ=k
 ·simp[h1,h2,h3,h4,h5,h6,h7,h8,h9,lg,oB,mb,pR,nF]
 by_cases vC:y8=k
 ·simp[h1,h2,h3,h4,h5,h6,h7,h8,h9,lg,oB,mb,pR,nF,vC]
 ·simp[h1,h2,h3,h4,h5,h6,h7,h8,h9,lg,oB,mb,pR,nF,vC]
theorem jcu (h1:(e.names.getD []).length≤SM)(h2:(e.values.getD []).length≤SM):f47 e=En (jn e.er):=by
 obtain⟨w1,g1⟩:=jn0 h1
 obtain⟨w2,g2⟩:=jpo h2
 have q1:f46 (jx ((e.names.getD []).map fun s=>if Go.W.dm s then(0:Int)else 8))=En (if(e.names.getD []).all Go.W.dm then 0 else 8):=by
  rw[q7n (by rw[zw,Gj];exact h1),zw,TT (by decide)]
 have q2:f46 (jx ((e.values.getD []).map fun s=>if rO s then(0:Int)else 3))=En (if(e.values.getD []).all rO then 0 else 3):=by
  rw[q7n (by rw[zw,Gj];exact h2),zw,TT (by decide)]
 unfold f47
 simp only[L0,lD,qa,g1,g2,q1,q2]
 rw[jG (by simp[SM])]
 simp only[]
 rw[jG (by simp[SM])]
 unfold jn
 rw[show e.er.number=e.number from rfl,show e.er.kind=e.kind from rfl,show e.er.names=e.names.getD []from rfl,show e.er.values=e.values.getD []from rfl,show e.er.text=e.text from rfl,show(fun n=>decide (0≤n)&&decide (n≤999999999))=rO from rfl]
 by_cases c1:e.number<1∨1000<e.number
 ·rw[if_pos c1,if_pos c1];rfl
 rw[if_neg c1,if_neg c1]
 rcases jbj e.kind with⟨c2,cH⟩|⟨f,c2,cH,fe⟩
 ·rw[cH]
  simp only[DY,j6,nB,c2]
  simp[fF]
 rw[cH]
 simp only[DY,j6,nB,c2,Gf,Gd,Es,if_false]
 by_cases cD:(e.names.getD []).length≠f.2.1.length∨(e.values.getD []).length≠f.2.2.1.toNat
 ·have:(!(decide (((e.names.getD []).length:Int)=(f.2.1.length:Int))&&decide (((e.values.getD []).length:Int)=f.2.2.1)))=E9:=by
   rcases cD with cD|cD
   ·rw[decide_eq_false (by omega)];rfl
   ·rw[decide_eq_false (p:=((e.values.getD []).length:Int)=f.2.2.1) (by omega),Gz];rfl
  rw[this,if_pos cD]
  rfl
 ·have:(!(decide (((e.names.getD []).length:Int)=(f.2.1.length:Int))&&decide (((e.values.getD []).length:Int)=f.2.2.1)))=I:=by
   rw[decide_eq_true (by omega),decide_eq_true (p:=((e.values.getD []).length:Int)=f.2.2.1) (by omega)];rfl
  rw[this,if_neg cD]
  simp only[fF,Es,if_false,if_true,decide_true,cond_true]
  cases (e.names.getD []).all Go.W.dm<;>cases (e.values.getD []).all rO<;>by_cases eh:e.text=[]<;>simp[eh]
end Go.Z
namespace Go.Z
open Go Go.Abs Go.W
variable {e:GEv}
theorem jqu:∀ (k:List UInt8),(f89 k=En ⟨0,0,I⟩∧ye k=none)∨∃a b:Nat,f89 k=En ⟨(a:Int),(b:Int),E9⟩∧ye k=En (a,b):=by
 intro k
 by_cases h1:k=lA
 ·subst h1;exact .inr ⟨2,2,rfl,rfl⟩
 by_cases h2:k=kl
 ·subst h2;exact .inr ⟨1,1,rfl,rfl⟩
 by_cases h3:k=oo
 ·subst h3;exact .inr ⟨1,1,rfl,rfl⟩
 by_cases h4:k=pJ
 ·subst h4;exact .inr ⟨1,1,rfl,rfl⟩
 by_cases h5:k=yp
 ·subst h5;exact .inr ⟨1,1,rfl,rfl⟩
 by_cases h6:k=kg
 ·subst h6;exact .inr ⟨1,1,rfl,rfl⟩
 by_cases h7:k=yw
 ·subst h7;exact .inr ⟨1,1,rfl,rfl⟩
 by_cases h8:k=yJ
 ·subst h8;exact .inr ⟨1,1,rfl,rfl⟩
 by_cases h9:k=lB
 ·subst h9;exact .inr ⟨2,2,rfl,rfl⟩
 by_cases lg:k=mM
 ·subst lg;exact .inr ⟨2,2,rfl,rfl⟩
 by_cases oB:k=oR
 ·subst oB;exact .inr ⟨2,2,rfl,rfl⟩
 by_cases mb:k=l4
 ·subst mb;exact .inr ⟨2,3,rfl,rfl⟩
 by_cases pR:k=lC
 ·subst pR;exact .inr ⟨2,1,rfl,rfl⟩
 by_cases nF:k=nA
 ·subst nF;exact .inr ⟨2,1,rfl,rfl⟩
 by_cases vC:k=y8
 ·subst vC;exact .inr ⟨0,0,rfl,rfl⟩
 refine .inl ⟨?_,?_⟩
 ·unfold f89
  simp only[decide_eq_false (p:=k=([108,111,116]:List UInt8)) h1,decide_eq_false (p:=k=([112,114,111,100,117,99,116]:List UInt8)) h2,decide_eq_false (p:=k=([105,115,115,117,101]:List UInt8)) h3,decide_eq_false (p:=k=([117,112,100,97,116,101]:List UInt8)) h4,decide_eq_false (p:=k=([104,111,108,100]:List UInt8)) h5,decide_eq_false (p:=k=([102,114,101,101]:List UInt8)) h6,decide_eq_false (p:=k=([115,104,105,112]:List UInt8)) h7,decide_eq_false (p:=k=([99,111,109,112,108,97,105,110]:List UInt8)) h8,decide_eq_false (p:=k=([110,101,101,100]:List UInt8)) h9,decide_eq_false (p:=k=([117,115,101]:List UInt8)) lg,decide_eq_false (p:=k=([109,101,97,115,117,114,101]:List UInt8)) oB,decide_eq_false (p:=k=([116,101,115,116]:List UInt8)) mb,decide_eq_false (p:=k=([98,117,105,108,100]:List UInt8)) pR,decide_eq_false (p:=k=([112,97,105,114]:List UInt8)) nF,decide_eq_false (p:=k=([117,110,100,111]:List UInt8)) vC,cond_false]
 ·unfold ye cQ
  simp[G6,Gi h1,Gi h2,Gi h3,Gi h4,Gi h5,Gi h6,Gi h7,Gi h8,Gi h9,Gi lg,Gi oB,Gi mb,Gi pR,Gi nF,Gi vC]
theorem jm0 {s}:f90 s=En (Go.W.dm s):=by rw[jv1,que]
theorem q46 {α:Type}{l:List α}{p:α→Bool}{f:Int→Option (Int⊕(Unit⊕Int))}{n}(hn:n=(l.length:Int))(hl:l.length≤SM)
  (cL:f n=En (.inr (.inr n))) (hf:∀(i:Nat) x,l[i]?=En x→i<l.length→f (i:Int)=En (if p x then .inl (qe .i64 ((i:Int)+1))else .inr (.inl ()))):
  ∃d,bB f 0=En d∧(match d with | .inl _=>I | .inr _=>E9)=l.all p:=by
 subst hn
 obtain⟨d,h1,h2⟩:=Td l f p (fun d=>match d with | .inl _=>I | .inr _=>E9) ⟨_,cL,rfl⟩ (fun i x hx hi=>by
  have h3:=hf i x hx hi
  cases hp:p x with
  |true=>rw[hp,yg (by unfold SM at hl;omega)]at h3;exact .inl ⟨rfl,h3⟩
  |false=>rw[hp]at h3;exact .inr ⟨rfl,_,h3,rfl⟩)
 exact⟨d,h1,h2⟩
theorem jds (h1:(e.names.getD []).length≤SM)(h2:(e.values.getD []).length≤SM):f33 e=En (jn e.er):=by
 unfold f33 jn
 rw[TJ]
 simp only[qa]
 rw[show e.er.number=e.number from rfl,show e.er.kind=e.kind from rfl,show e.er.names=e.names.getD []from rfl,show e.er.values=e.values.getD []from rfl,show e.er.text=e.text from rfl,show(fun n=>decide (0≤n)&&decide (n≤999999999))=rO from rfl]
 by_cases c1:e.number<1∨1000<e.number
 ·rw[decide_eq_true c1,if_pos c1];rfl
 rw[decide_eq_false c1,if_neg c1]
 simp only[cond_false]
 rcases jqu e.kind with⟨c2,cH⟩|⟨a,b,c2,cH⟩
 ·rw[c2,cH];rfl
 rw[c2,cH]
 simp only[cond_true]
 by_cases cD:(e.names.getD []).length=a
 case neg=>rw[decide_eq_false (by omega),if_pos (.inl cD)];rfl
 by_cases eh:(e.values.getD []).length=b
 case neg=>rw[decide_eq_true (by omega),decide_eq_false (p:=((e.values.getD []).length:Int)=(b:Int)) (by omega),if_pos (.inr eh)];rfl
 rw[decide_eq_true (by omega),decide_eq_true (p:=((e.values.getD []).length:Int)=(b:Int)) (by omega),if_neg (by omega)]
 simp only[cond_true]
 obtain⟨d,g1,g2⟩:=q46 (l:=e.names.getD []) (p:=Go.W.dm) (f:=Bu e ⟨(a:Int),(b:Int),E9⟩) (n:=(a:Int)) (by omega) h1 (by unfold Bu;simp only[z6];rfl) (fun i x hx hi=>by
  unfold Bu
  simp only[show decide ((i:Int)<(a:Int))=E9 from decide_eq_true (by omega),cond_true,qa,ja hx,jm0]
  cases Go.W.dm x<;>rfl)
 obtain⟨d2,g3,g4⟩:=q46 (l:=e.values.getD []) (p:=rO) (f:=Bv e ⟨(a:Int),(b:Int),E9⟩) (n:=(b:Int)) (by omega) h2 (by unfold Bv;simp only[z6];rfl) (fun i x hx hi=>by
  unfold Bv
  simp only[show decide ((i:Int)<(b:Int))=E9 from decide_eq_true (by omega),cond_true,qa,ja hx,TJ]
  unfold rO
  by_cases k1:x<0
  ·rw[decide_eq_true (Or.inl k1),decide_eq_false (p:=0≤x) (by omega)];rfl
  ·by_cases k2:999999999<x
   ·rw[decide_eq_true (Or.inr k2),decide_eq_false (p:=x≤999999999) (by omega),Gz];rfl
   ·rw[decide_eq_false (p:=x<0∨999999999<x) (by omega),decide_eq_true (p:=0≤x) (by omega),decide_eq_true (p:=x≤999999999) (by omega)];rfl)
 rw[g1,←g2,←g4]
 cases d with
 |inl d=>rfl
 |inr d=>
  simp only[]
  rw[g3]
  cases d2 with
  |inl d2=>rfl
  |inr d2=>
   by_cases mP:e.text=[]
   ·rw[decide_eq_true mP];simp[mP]
   ·rw[decide_eq_false mP];simp[mP]
end Go.Z
