/- Chapter 10, plain. -/
import Derived.Test.YtimdocpnkimlfaaGreatDoorE1
set_option linter.unusedVariables false
set_option linter.unusedSimpArgs false
set_option maxRecDepth 100000
set_option maxHeartbeats 4000000
open Bool renaming false→I,false_eq_true→E3,true→Ga,not_true→Gd,false_and→Gm,false_or→Gp,true_and→Gq,or_false→Gr,and_true→Gs,not_eq_true→Gw,true_or→Gx,and_false→G7,or_true→Jn
open Option renaming some→En,getD_some→Gc,isSome_some→Gh,any_some→Hb
open List renaming length_singleton→Gg,length_map→Gl,getElem?_eq_getElem→Gv,length_set→Gz,drop_eq_nil_of_le→G6,mem_map_of_mem→G8,map_cons→G9,not_mem_nil→Ha,find?_cons→Hc,drop_zero→Hd,mem_cons→If,map_nil→Ih,map_set→Iy
open Ne renaming symm→Gi
namespace Go.Z
open Go Go.Abs Go.W
variable {r:au}{e:GEv}
theorem T0 {a lo hi}:f88 a lo hi=En (decide (a<lo∨hi<a)):=by
 unfold f88
 by_cases h:a<lo
 ·simp[h]
 ·simp[h]
theorem zD {o}:decide (eh o<0)=!o.isSome:=by
 cases o with
 |none=>rfl
 |some k=>exact decide_eq_false (by show ¬(k:Int)<0;omega)
theorem j0c (b:GB r)(hk:e.kind=mI)(hc:zk e.er=0):gO (sg r e) (apply (qe .i64) r.er e.er):=by
 obtain⟨h1,h2⟩:=kj hk (show yw mI=En (2,2)from rfl) hc
 obtain⟨n0,n1,hn⟩:=gP h1
 obtain⟨v0,v1,hv⟩:=gP h2
 unfold apply mP
 rw[show e.er.kind=mI from hk,if_pos (by decide),if_pos rfl,eW hn,lY hn,vL hv,wS]
 unfold sg
 simp only[hH hn,gN hn,gN hv,qa,Hg (je b.L),wR,T0,Br (je b.L)]
 rw[show decide (e.kind=([108,111,116]:List UInt8))=Ga from decide_eq_true hk,Ek (o:=En (r.ar.getD [])) (by have:=mO b.L;simp only[Gc,Gg];omega) (by simp)]
 simp only[cond_true]
 cases (zf r.er n0).isSome with
 |true=>exact⟨_,_,rfl,rfl,by decide⟩
 |false=>
  by_cases h1:v1<1∨10000<v1
  ·simp only[decide_eq_true h1,if_pos h1]
   exact⟨_,_,rfl,rfl,by decide⟩
  ·simp only[decide_eq_false h1,if_neg h1]
   by_cases h2:64≤(r.ar.getD []).length
   ·simp only[show decide (64≤((r.ar.getD []).length:Int))=Ga from decide_eq_true (by omega),wS,if_pos h2,E3,if_false]
    exact⟨_,_,rfl,rfl,by decide⟩
   ·simp only[show decide (64≤((r.ar.getD []).length:Int))=I from decide_eq_false (by omega),wS,if_neg h2,E3,if_false]
    exact⟨_,_,rfl,rfl,rfl⟩
theorem jfn (b:GB r)(hk:e.kind=nE)(hc:zk e.er=0):gO (sg r e) (apply (qe .i64) r.er e.er):=by
 obtain⟨h1,h2⟩:=kj hk (show yw nE=En (1,1)from rfl) hc
 obtain⟨n0,hn⟩:=jC h1
 unfold apply mP
 rw[show e.er.kind=nE from hk,if_pos (by decide),if_neg (by decide),if_pos rfl,eW hn]
 have hl:r.er.ae.length=(r.ae.getD []).length:=by rw[yU,Gl]
 unfold sg
 simp only[hH hn,qa,Ec (je b.P),wR,Br (je b.P),hl]
 rw[show decide (e.kind=([108,111,116]:List UInt8))=I from decide_eq_false (by rw[hk];decide),show decide (e.kind=([112,114,111,100,117,99,116]:List UInt8))=Ga from decide_eq_true hk,Ek (o:=En (r.ae.getD [])) (by have:=mO b.P;simp only[Gc,Gg];omega) (by simp)]
 simp only[cond_true,cond_false]
 cases (zz r.er n0).isSome with
 |true=>exact⟨_,_,rfl,rfl,by decide⟩
 |false=>
  by_cases h2:16≤(r.ae.getD []).length
  ·simp only[show decide (16≤((r.ae.getD []).length:Int))=Ga from decide_eq_true (by omega),if_pos h2]
   exact⟨_,_,rfl,rfl,by decide⟩
  ·simp only[show decide (16≤((r.ae.getD []).length:Int))=I from decide_eq_false (by omega),if_neg h2]
   exact⟨_,_,rfl,rfl,qxb rfl⟩
theorem jn8 (b:GB r)(hk:e.kind=mK)(hc:zk e.er=0):gO (sg r e) (apply (qe .i64) r.er e.er):=by
 obtain⟨h1,h2⟩:=kj hk (show yw mK=En (2,1)from rfl) hc
 obtain⟨n0,n1,hn⟩:=gP h1
 unfold apply mP
 rw[show e.er.kind=mK from hk,if_pos (by decide),if_neg (by decide),if_neg (by decide),eW hn,lY hn]
 have hl:r.er.units.length=(r.units.getD []).length:=by rw[rU,Gl]
 unfold sg
 simp only[hH hn,gN hn,qa,Ec (je b.P),Md (je b.U),wR,zD,Br (je b.U),hl]
 rw[show decide (e.kind=([108,111,116]:List UInt8))=I from decide_eq_false (by rw[hk];decide),show decide (e.kind=([112,114,111,100,117,99,116]:List UInt8))=I from decide_eq_false (by rw[hk];decide)]
 simp only[cond_false]
 unfold k9
 cases hp:zz r.er n1 with
 |none=>exact⟨_,_,rfl,rfl,by decide⟩
 |some k=>
  obtain⟨p,g1,_,g3⟩:=Eo hp
  have hd:p.er.aW.isEmpty=decide (((p.aW.getD []).length:Int)=0):=by
   show((p.aW.getD []).map bY.er).isEmpty=_
   cases p.aW.getD []with
   |nil=>rfl
   |cons x l=>simp;omega
  have oX:p.er.aW.length=(p.aW.getD []).length:=by show((p.aW.getD []).map bY.er).length=_;rw[Gl]
  simp only[Gh,Gd,cond_false,y6,jc g1,Option.bind_some,g3,hd,oX]
  rw[Ek (o:=En (r.units.getD [])) (by have:=mO b.U;simp only[Gc,Gg];omega) (by simp)]
  cases (js r.er n0).isSome with
  |true=>exact⟨_,_,rfl,rfl,by decide⟩
  |false=>
   cases decide (((p.aW.getD []).length:Int)=0)with
   |true=>exact⟨_,_,rfl,rfl,by decide⟩
   |false=>
    by_cases h2:256≤(r.units.getD []).length
    ·simp only[show decide (256≤((r.units.getD []).length:Int))=Ga from decide_eq_true (by omega),if_pos h2]
     exact⟨_,_,rfl,rfl,by decide⟩
    ·simp only[show decide (256≤((r.units.getD []).length:Int))=I from decide_eq_false (by omega),if_neg h2]
     exact⟨_,_,rfl,rfl,qxq rfl⟩
theorem q76 (b:GB r){k x}(hk:k<(r.ar.getD []).length):zE r (k:Int) x=En { r with ar:=En ((r.ar.getD []).set k x) }:=by
 unfold zE;rw[TJ (je b.L) hk];rfl
theorem jp3 (b:GB r){k x}(hk:k<(r.ae.getD []).length):zF r (k:Int) x=En { r with ae:=En ((r.ae.getD []).set k x) }:=by
 unfold zF;rw[TJ (je b.P) hk];rfl
theorem BE (hb:(r.units.getD []).length≤BB){k x}(hk:k<(r.units.getD []).length):f267 r (k:Int) x=En { r with units:=En ((r.units.getD []).set k x) }:=by
 unfold f267;rw[TJ (je hb) hk];rfl
theorem vO {α:Type}{l:List α}{k x}(h:l[k]?=En x):k<l.length:=(List.getElem?_eq_some_iff.1 h).1
theorem jd6 (b:GB r)(hold:Bool)(hk:e.kind=if hold then ou else rT)(hc:zk e.er=0):gO (Ev r e) (apply (qe .i64) r.er e.er):=by
 obtain⟨h1,h2⟩:=kj (a:=1) (c:=1) hk (by cases hold<;>rfl) hc
 obtain⟨n0,hn⟩:=jC h1
 rw[kC hk (by cases hold<;>decide) (by cases hold<;>decide),if_pos (by cases hold<;>decide)]
 unfold pU
 rw[eW hn]
 unfold Ev
 simp only[hH hn,qa,Hg (je b.L),zD]
 cases hp:zf r.er n0 with
 |none=>exact⟨_,_,rfl,rfl,by decide⟩
 |some k=>
  obtain⟨x,g1,_⟩:=HY hp
  simp only[Gh,Gd,cond_false,y6,jc g1,wS,g1,q76 b (vO g1),show e.er.kind=e.kind from rfl]
  cases hold with
  |true=>
   have hk:e.kind=ou:=hk
   rw[show decide (e.kind=([104,111,108,100]:List UInt8))=Ga from decide_eq_true hk,show decide (e.kind=([102,114,101,101]:List UInt8))=I from decide_eq_false (by rw[hk];decide),if_pos hk]
   by_cases hh:x.held=Ga
   ·simp only[hh,cond_true,if_true];exact⟨_,_,rfl,rfl,by decide⟩
   ·rw[Gw]at hh
    simp only[hh,cond_true,cond_false,E3,if_false];exact⟨_,_,rfl,rfl,Mu rfl⟩
  |false=>
   have hk:e.kind=rT:=hk
   rw[show decide (e.kind=([104,111,108,100]:List UInt8))=I from decide_eq_false (by rw[hk];decide),show decide (e.kind=([102,114,101,101]:List UInt8))=Ga from decide_eq_true hk,if_neg (by rw[hk];decide)]
   by_cases hh:x.held=Ga
   ·simp only[hh,cond_true,cond_false,Gd,E3,if_false];exact⟨_,_,rfl,rfl,Mu rfl⟩
   ·rw[Gw]at hh
    simp only[hh,cond_true,cond_false,Bool.not_false,if_true];exact⟨_,_,rfl,rfl,by decide⟩
theorem q6i {α:Type}{l:List α}{p x}(h:l.length≤16):16<(kf p x l).length↔(!(l.any p))=Ga∧16≤l.length:=by
 unfold kf
 rw[Bn]
 cases hi:l.findIdx? p with
 |some i=>
  simp only[Gz]
  constructor
  ·intro h2;omega
  ·rintro ⟨h2,_⟩;cases h2
 |none=>
  simp only[List.length_append,Gg]
  constructor
  ·intro h2;exact⟨rfl,by omega⟩
  ·rintro ⟨_,h2⟩;omega
theorem T1 (b:GB r)(w:WF r.er){kk:List UInt8}(ik:kk=mJ∨kk=nF∨kk=pO)(hk:e.kind=kk)(hc:zk e.er=0)(iX:∀v∈e.values.getD [],0≤v):gO (zG r e) (apply (qe .i64) r.er e.er):=by
 have hR:apply (qe .i64) r.er e.er=kw r.er e.er:=by
  unfold apply
  rw[show e.er.kind=kk from hk,if_neg (by rcases ik with rfl|rfl|rfl<;>decide),if_pos ik]
 rw[hR]
 obtain⟨n0,t,hn⟩:∃n0 t,e.names.getD []=n0::t:=by
  rcases ik with rfl|rfl|rfl
  ·obtain⟨a,c,h⟩:=gP (kj (c:=2) hk rfl hc).1;exact⟨_,_,h⟩
  ·obtain⟨a,c,h⟩:=gP (kj (c:=3) hk rfl hc).1;exact⟨_,_,h⟩
  ·obtain⟨a,h⟩:=jC (kj (c:=1) hk rfl hc).1;exact⟨_,_,h⟩
 cases hp:zz r.er n0 with
 |none=>
  unfold kw
  rw[eW hn,hp]
  unfold zG
  simp only[hH hn,qa,Ec (je b.P),zD,hp]
  exact⟨_,_,rfl,rfl,by decide⟩
 |some k=>
 obtain⟨p,g1,_,g3⟩:=Eo hp
 have hm:=List.mem_of_getElem? g1
 have hD:=b.D p hm
 have wW:p.er∈r.er.ae:=by rw[yU];exact G8 hm
 have hkn:=w.aM _ wW
 have hkt:=w.aH _ wW
 have T2:zu (·.k) (p.dn.getD []):=hkn.1
 have T3:(p.dn.getD []).length≤16:=hkn.2
 have T4:zu (·.k) (p.dt.getD []):=hkt.1
 have T5:(p.dt.getD []).length≤16:=hkt.2
 rw[Mv (eW hn) hp g3]
 unfold zG
 simp only[hH hn,qa,Ec (je b.P),zD,hp,Gh,Gd,cond_false,y6,jc g1,jp3 b (vO g1)]
 rcases ik with rfl|rfl|rfl
 ·obtain⟨h1,h2⟩:=kj (a:=2) (c:=2) hk rfl hc
  obtain⟨n0',n1,iY⟩:=gP h1
  obtain⟨v0,v1,hv⟩:=gP h2
  have h0:0≤v1:=iX v1 (by rw[hv];simp)
  obtain⟨v,ww,f1,f2⟩:=jp7 (x:=⟨n1,v1⟩) (mO hD.2.1) T2 h0
  have f2:v.getD []=ku (p.dn.getD []) n1 v1:=f2
  rw[if_pos hk,lY iY,vL hv]
  simp only[gN hv,gN iY,f1,show decide (e.kind=([110,101,101,100]:List UInt8))=Ga from decide_eq_true hk,cond_true]
  by_cases hz:10000<v1
  ·rw[decide_eq_true hz,if_pos (Or.inr hz)];exact⟨_,_,rfl,rfl,by decide⟩
  ·rw[decide_eq_false hz,if_neg (show ¬(v1<0∨10000<v1) by omega)]
   have dE:({ r with ae:=En ((r.ae.getD []).set k ⟨p.name,v,p.dt,p.aW⟩) }:au).er=bN r.er k { p.er with bU:={ p.er.bU with aM:=ku (p.dn.getD []) n1 v1 } }:=by
    rw[Ep rfl]
    congr 1
    simp only[aX.er,f2]
   have hlen:decide (16<((v.getD []).length:Int))=decide (16<(ku (p.dn.getD []) n1 v1).length):=by
    rw[f2]
    by_cases h:16<(ku (p.dn.getD []) n1 v1).length
    ·rw[decide_eq_true h];exact decide_eq_true (by omega)
    ·rw[decide_eq_false h];exact decide_eq_false (by omega)
   have lZ:16<(ku (p.dn.getD []) n1 v1).length↔(0<v1∧(!(p.dn.getD []).any (cX n1))=Ga∧16≤(p.dn.getD []).length):=by
    unfold ku
    by_cases pI:v1=0
    ·rw[if_pos pI]
     have:=List.length_filter_le (fun x=>!cX n1 x) (p.dn.getD [])
     constructor
     ·intro h;omega
     ·rintro ⟨h,_⟩;omega
    ·rw[if_neg pI,q6i T3]
     constructor
     ·intro h;exact⟨by omega,h⟩
     ·exact fun h=>h.2
   simp only[cond_false,hlen]
   by_cases nL:16<(ku (p.dn.getD []) n1 v1).length
   ·rw[decide_eq_true nL,if_pos (lZ.1 nL)]
    cases ww<;>exact⟨_,_,rfl,rfl,by decide⟩
   ·rw[decide_eq_false nL,if_neg (fun h=>nL (lZ.2 h))]
    cases ww<;>exact⟨_,_,rfl,rfl,dE⟩
 ·obtain⟨h1,h2⟩:=kj (a:=2) (c:=3) hk rfl hc
  obtain⟨n0',n1,iY⟩:=gP h1
  obtain⟨v0,v1,v2,hv⟩:=jvw h2
  obtain⟨v,ww,f1,f2⟩:=jqy (x:=⟨n1,v1,v2⟩) (mO hD.2.2.1) T4
  have f2:v.getD []=kf (eG n1) ⟨n1,v1,v2⟩ (p.dt.getD []):=f2
  rw[if_neg (show ¬e.kind=mJ by rw[hk];decide),if_pos hk,lY iY,vL hv,vl2 hv]
  simp only[gN hv,jt5 hv,gN iY,f1,show decide (e.kind=([110,101,101,100]:List UInt8))=I from decide_eq_false (by rw[hk];decide),show decide (e.kind=([116,101,115,116]:List UInt8))=Ga from decide_eq_true hk,cond_true,cond_false]
  by_cases hz:v2<v1
  ·rw[decide_eq_true hz,if_pos hz];exact⟨_,_,rfl,rfl,by decide⟩
  ·rw[decide_eq_false hz,if_neg hz]
   have dE:({ r with ae:=En ((r.ae.getD []).set k ⟨p.name,p.dn,v,p.aW⟩) }:au).er=bN r.er k { p.er with bU:={ p.er.bU with aH:=kf (eG n1) ⟨n1,v1,v2⟩ (p.dt.getD []) } }:=by
    rw[Ep rfl]
    congr 1
    simp only[aX.er,f2]
   have hlen:decide (16<((v.getD []).length:Int))=decide (16<(kf (eG n1) ⟨n1,v1,v2⟩ (p.dt.getD [])).length):=by
    rw[f2]
    by_cases h:16<(kf (eG n1) ⟨n1,v1,v2⟩ (p.dt.getD [])).length
    ·rw[decide_eq_true h];exact decide_eq_true (by omega)
    ·rw[decide_eq_false h];exact decide_eq_false (by omega)
   have lZ:=q6i (p:=eG n1) (x:=(⟨n1,v1,v2⟩:jf)) T5
   simp only[cond_false,hlen]
   by_cases nL:16<(kf (eG n1) ⟨n1,v1,v2⟩ (p.dt.getD [])).length
   ·rw[decide_eq_true nL,if_pos (lZ.1 nL)]
    cases ww<;>exact⟨_,_,rfl,rfl,by decide⟩
   ·rw[decide_eq_false nL,if_neg (fun h=>nL (lZ.2 h))]
    cases ww<;>exact⟨_,_,rfl,rfl,dE⟩
 ·rw[if_neg (show ¬e.kind=mJ by rw[hk];decide),if_neg (show ¬e.kind=nF by rw[hk];decide)]
  simp only[show decide (e.kind=([110,101,101,100]:List UInt8))=I from decide_eq_false (by rw[hk];decide),show decide (e.kind=([116,101,115,116]:List UInt8))=I from decide_eq_false (by rw[hk];decide),cond_false,Br (je hD.1)]
  rw[Ek (o:=En (p.aW.getD [])) (by have:=mO hD.1;simp only[Gc,Gg];omega) (by simp)]
  have oX:p.er.aW.length=(p.aW.getD []).length:=by show((p.aW.getD []).map bY.er).length=_;rw[Gl]
  have hd:(p.dn.getD []).isEmpty=decide (((p.dn.getD []).length:Int)=0):=by
   cases p.dn.getD []with
   |nil=>rfl
   |cons x l=>simp;omega
  have dE:({ r with ae:=En ((r.ae.getD []).set k ⟨p.name,p.dn,p.dt,En (p.aW.getD []++[⟨p.dn,p.dt⟩])⟩) }:au).er=bN r.er k { p.er with aW:=p.er.aW++[p.er.bU] }:=by
   rw[Ep rfl]
   congr 1
   simp only[aX.er,Gc,List.map_append,G9,Ih]
   rfl
  simp only[hd,oX]
  cases decide (((p.dn.getD []).length:Int)=0)with
  |true=>exact⟨_,_,rfl,rfl,by decide⟩
  |false=>
   by_cases h2:100≤(p.aW.getD []).length
   ·simp only[show decide (100≤((p.aW.getD []).length:Int))=Ga from decide_eq_true (by omega),if_pos h2,E3,if_false]
    exact⟨_,_,rfl,rfl,by decide⟩
   ·simp only[show decide (100≤((p.aW.getD []).length:Int))=I from decide_eq_false (by omega),if_neg h2,E3,if_false]
    exact⟨_,_,rfl,rfl,dE⟩
end Go.Z
namespace Go.Z
open Go Go.Abs Go.W
variable {r:au}{e:GEv}
theorem T6 {α:Type}(p:α→Bool):∀(l:List α) (c:Bool),l.foldl (fun c x=>if c then Ga else p x) c=(c||l.any p)
 | [],c=>by simp
 |x::l,c=>by
  rw[List.foldl_cons,T6 p l,List.any_cons]
  cases c<;>simp
theorem T7 {u}(h:u.aj=I):(⟨u.name,u.product,u.version,u.uses,u.results,u.partner,I,u.ak⟩:aY)=u:=by cases u;simp only at h;rw[h]
theorem j37 (b:GB r)(w:WF r.er)(hk:e.kind=mL)(hc:zk e.er=0){k:Nat}{u n0 n1 v0 v1}(hn:e.names.getD []=[n0,n1])(hv:e.values.getD []=[v0,v1])(h1:(r.units.getD [])[k]?=En u):gO (f263 r (k:Int) e) (rZ (qe .i64) r.er k u.er e.er):=by
 obtain⟨D,v,o⟩:=Bx b w h1
 unfold rZ
 rw[lY hn,vL hv,o.wT]
 unfold f263
 simp only[jc h1,gN hn,gN hv,qa,Hg (je b.L),zD]
 cases hq:zf r.er n1 with
 |none=>exact⟨_,_,rfl,rfl,by decide⟩
 |some j=>
 obtain⟨x,h4,_⟩:=HY hq
 simp only[Gh,Gd,cond_false,y6,jc h4,wS,h4]
 by_cases hs:u.aj=Ga
 ·rw[hs,if_pos (show u.er.aj=Ga from hs)];exact⟨_,_,rfl,rfl,by decide⟩
 rw[if_neg (show ¬u.er.aj=Ga from hs)]
 rw[Gw]at hs
 simp only[T7 hs,o.rX]
 rw[hs]
 simp only[cond_false]
 by_cases hz:v1=0
 ·rw[decide_eq_true hz,if_pos hz];exact⟨_,_,rfl,rfl,by decide⟩
 rw[decide_eq_false hz,if_neg hz]
 simp only[cond_false]
 by_cases hh:x.held=Ga
 ·rw[hh];exact⟨_,_,rfl,rfl,by decide⟩
 have R0:x.held=I:=by simpa using hh
 have L:=Ho (D.aM.getD []) (zH r (k:Int) e u (j:Int) x D) (fun i (c:Bool)=>(c,(i:Int))) (fun c y=>if c then Ga else cX x.kind y) (fun c=>(c,((D.aM.getD []).length:Int))) I (fun c=>by unfold zH;simp only[yb];rfl)
  (fun i c y hy hi=>by
   unfold zH
   simp only[kc hi,cond_true,qa,jc hy]
   rw[ya (by have:=o.aM;unfold BB at this;omega)]
   cases c<;>rfl)
 rw[T6,Gp]at L
 have L':bz (zH r (k:Int) e u (j:Int) x D) (I,0)=En ((D.aM.getD []).any (cX x.kind),((D.aM.getD []).length:Int)):=L
 rw[if_neg hh]
 simp only[R0,cond_false,L',Hb,show D.er.aM=D.aM.getD []from rfl]
 cases (D.aM.getD []).any (cX x.kind)with
 |false=>exact⟨_,_,rfl,rfl,by decide⟩
 |true=>
 simp only[cond_true,Gd,E3,if_false]
 by_cases hl:x.left<v1
 ·rw[decide_eq_true hl,if_pos hl];exact⟨_,_,rfl,rfl,by decide⟩
 rw[decide_eq_false hl,if_neg hl]
 obtain⟨q,wq,q1,q2⟩:=jn5 (o:=u.uses) (k:=x.name) (n:=v1) (mO o.uses) o.keyed
 rw[q1]
 simp only[cond_false,q76 b (vO h4)]
 rw[show(⟨u.name,u.product,u.version,q,u.results,u.partner,I,u.ak⟩:aY)={ u with uses:=q } by rw[←hs]]
 have f16:=BE (r:={ r with ar:=En ((r.ar.getD []).set j ⟨x.name,x.kind,x.count,qe .i64 (x.left-v1),I⟩) }) (x:={ u with uses:=q }) b.U (vO h1)
 have dE:({ r with ar:=En ((r.ar.getD []).set j ⟨x.name,x.kind,x.count,qe .i64 (x.left-v1),I⟩),units:=En ((r.units.getD []).set k { u with uses:=q }) }:au).er=ax (cg r.er j ⟨x.name,x.kind,x.count,qe .i64 (x.left-v1),I⟩) k { u.er with uses:=jN (qe .i64) u.er.uses x.name v1 }:=by
  simp only[au.er,ax,cg,Gc,Iy]
  congr 2
  simp only[aY.er,q2]
 simp only[f16]
 cases wq<;>exact⟨_,_,rfl,rfl,dE⟩
theorem jui (b:GB r)(hk:e.kind=nG)(hc:zk e.er=0){k:Nat}{u n0 n1}(hn:e.names.getD []=[n0,n1])(h1:(r.units.getD [])[k]?=En u):gO (f264 r (k:Int) e) (sd r.er k u.er e.er):=by
 unfold sd
 rw[lY hn]
 unfold f264
 simp only[jc h1,gN hn,qa,Md (je b.U),zD]
 cases hq:js r.er n1 with
 |none=>exact⟨_,_,rfl,rfl,by decide⟩
 |some j=>
 obtain⟨v,h4,_,h5⟩:=oZ hq
 rw[y6]
 simp only[Gh,Gd,cond_false,jc h4,h5]
 by_cases c1:k=j
 ·rw[if_pos c1,@decide_eq_true ((j:Int)=(k:Int)) _ (by omega)];exact⟨_,_,rfl,rfl,by decide⟩
 rw[if_neg c1,@decide_eq_false ((j:Int)=(k:Int)) _ (by omega)]
 simp only[cond_false]
 by_cases c2:u.product=v.product
 case neg=>rw[decide_eq_false c2,if_pos (show u.er.product≠v.er.product∨u.er.version≠v.er.version from Or.inl c2)];exact⟨_,_,rfl,rfl,by decide⟩
 by_cases cY:u.version=v.version
 case neg=>rw[decide_eq_true c2,decide_eq_false cY,if_pos (show u.er.product≠v.er.product∨u.er.version≠v.er.version from Or.inr cY)];exact⟨_,_,rfl,rfl,by decide⟩
 rw[if_neg (show ¬(u.er.product≠v.er.product∨u.er.version≠v.er.version)from fun h=>h.elim (fun h=>h c2) (fun h=>h cY)),decide_eq_true c2,decide_eq_true cY]
 simp only[cond_true]
 by_cases eX:u.aj=Ga
 ·rw[if_pos (show u.er.aj=Ga∨v.er.aj=Ga from Or.inl eX),eX];exact⟨_,_,rfl,rfl,by decide⟩
 by_cases dl:v.aj=Ga
 ·rw[if_pos (show u.er.aj=Ga∨v.er.aj=Ga from Or.inr dl)]
  have lb:u.aj=I:=by simpa using eX
  rw[lb,dl];exact⟨_,_,rfl,rfl,by decide⟩
 have lb:u.aj=I:=by simpa using eX
 have si:v.aj=I:=by simpa using dl
 rw[if_neg (show ¬(u.er.aj=Ga∨v.er.aj=Ga)from fun h=>h.elim eX dl)]
 have f1:=BE (r:=r) (x:={ u with partner:=v.name }) b.U (vO h1)
 have f2:=BE (r:={ r with units:=En ((r.units.getD []).set k { u with partner:=v.name }) }) (k:=j) (x:={ v with partner:=u.name }) (by rw[Gc,Gz];exact b.U) (by rw[Gc,Gz];exact vO h4)
 have dE:({ r with units:=En (((r.units.getD []).set k { u with partner:=v.name }).set j { v with partner:=u.name }) }:au).er=ax (ax r.er k { u.er with partner:=v.er.name }) j { v.er with partner:=u.er.name }:=by
  simp only[au.er,ax,Gc,Iy]
  rfl
 rw[show(⟨u.name,u.product,u.version,u.uses,u.results,v.name,I,u.ak⟩:aY)={ u with partner:=v.name } by rw[←lb],show(⟨v.name,v.product,v.version,v.uses,v.results,u.name,I,v.ak⟩:aY)={ v with partner:=u.name } by rw[←si]]
 simp only[f1,f2]
 rw[lb,si]at dE ⊢
 simp only[cond_false]
 by_cases dZ:u.partner=[]
 case neg=>rw[if_pos (show u.er.partner≠[]∨v.er.partner≠[]from Or.inl dZ),decide_eq_false dZ];exact⟨_,_,rfl,rfl,by decide⟩
 by_cases mR:v.partner=[]
 case neg=>rw[if_pos (show u.er.partner≠[]∨v.er.partner≠[]from Or.inr mR),decide_eq_true dZ,decide_eq_false mR];exact⟨_,_,rfl,rfl,by decide⟩
 rw[if_neg (show ¬(u.er.partner≠[]∨v.er.partner≠[])from fun h=>h.elim (fun h=>h dZ) (fun h=>h mR)),decide_eq_true dZ,decide_eq_true mR]
 exact⟨_,_,rfl,rfl,dE⟩
theorem Ew (b:GB r)(w:WF r.er){kk:List UInt8}(ik:kk=mL∨kk=nG∨kk=oT∨kk=pP∨kk=iO∨kk=yR)(hk:e.kind=kk)(hc:zk e.er=0):gO (Ey r e) (apply (qe .i64) r.er e.er):=by
 rw[kC hk (by rcases ik with rfl|rfl|rfl|rfl|rfl|rfl<;>decide) (by rcases ik with rfl|rfl|rfl|rfl|rfl|rfl<;>decide),if_neg (by rcases ik with rfl|rfl|rfl|rfl|rfl|rfl<;>decide)]
 obtain⟨n0,t,hn⟩:∃n0 t,e.names.getD []=n0::t:=by
  rcases ik with rfl|rfl|rfl|rfl|rfl|rfl
  ·obtain⟨a,c,h⟩:=gP (kj (c:=2) hk rfl hc).1;exact⟨_,_,h⟩
  ·obtain⟨a,c,h⟩:=gP (kj (c:=1) hk rfl hc).1;exact⟨_,_,h⟩
  ·obtain⟨a,c,h⟩:=gP (kj (c:=2) hk rfl hc).1;exact⟨_,_,h⟩
  ·obtain⟨a,h⟩:=jC (kj (c:=1) hk rfl hc).1;exact⟨_,_,h⟩
  ·obtain⟨a,h⟩:=jC (kj (c:=1) hk rfl hc).1;exact⟨_,_,h⟩
  ·obtain⟨a,h⟩:=jC (kj (c:=1) hk rfl hc).1;exact⟨_,_,h⟩
 cases hp:js r.er n0 with
 |none=>
  unfold mQ
  rw[eW hn,hp]
  unfold Ey
  simp only[hH hn,qa,Md (je b.U),zD,hp]
  exact⟨_,_,rfl,rfl,by decide⟩
 |some k=>
 obtain⟨u,h1,_,h3⟩:=oZ hp
 obtain⟨D,v,o⟩:=Bx b w h1
 rw[wU (eW hn) hp h3]
 unfold Ey
 simp only[hH hn,qa,Md (je b.U),zD,hp,Gh,Gd,cond_false,y6,jc h1]
 rcases ik with rfl|rfl|rfl|rfl|rfl|rfl
 ·obtain⟨g1,g2⟩:=kj (a:=2) (c:=2) hk rfl hc
  obtain⟨a,c,iY⟩:=gP g1
  obtain⟨v0,v1,hv⟩:=gP g2
  rw[if_pos hk,show decide (e.kind=([117,115,101]:List UInt8))=Ga from decide_eq_true hk]
  obtain⟨r',cc,q1,q2⟩:=j37 b w hk hc iY hv h1
  simp only[cond_true,q1]
  exact⟨_,_,rfl,q2⟩
 ·obtain⟨g1,g2⟩:=kj (a:=2) (c:=1) hk rfl hc
  obtain⟨a,c,iY⟩:=gP g1
  rw[if_neg (show ¬e.kind=mL by rw[hk];decide),if_pos hk,show decide (e.kind=([117,115,101]:List UInt8))=I from decide_eq_false (by rw[hk];decide),show decide (e.kind=([112,97,105,114]:List UInt8))=Ga from decide_eq_true hk]
  obtain⟨r',cc,q1,q2⟩:=jui b hk hc iY h1
  simp only[cond_true,cond_false,q1]
  exact⟨_,_,rfl,q2⟩
 ·obtain⟨g1,g2⟩:=kj (a:=2) (c:=2) hk rfl hc
  obtain⟨a,n1,iY⟩:=gP g1
  obtain⟨v0,v1,hv⟩:=gP g2
  rw[if_neg (show ¬e.kind=mL by rw[hk];decide),if_neg (show ¬e.kind=nG by rw[hk];decide),if_pos hk,show decide (e.kind=([117,115,101]:List UInt8))=I from decide_eq_false (by rw[hk];decide),show decide (e.kind=([112,97,105,114]:List UInt8))=I from decide_eq_false (by rw[hk];decide),show decide (e.kind=([109,101,97,115,117,114,101]:List UInt8))=Ga from decide_eq_true hk,lY iY,vL hv,o.wT]
  simp only[cond_true,cond_false]
  by_cases hs:u.aj=Ga
  ·rw[hs];exact⟨_,_,rfl,rfl,by decide⟩
  have gV:u.aj=I:=by simpa using hs
  have L:=Ho (D.aH.getD []) (zI r e (k:Int) u D) (fun i (c:Bool)=>(c,(i:Int))) (fun c y=>if c then Ga else eG n1 y) (fun c=>(c,((D.aH.getD []).length:Int))) I (fun c=>by unfold zI;simp only[yb];rfl)
   (fun i c y hy hi=>by
    unfold zI
    simp only[kc hi,cond_true,qa,jc hy,gN iY]
    rw[ya (by have:=o.aH;unfold BB at this;omega)]
    cases c<;>rfl)
  rw[T6,Gp]at L
  have L':bz (zI r e (k:Int) u D) (I,0)=En ((D.aH.getD []).any (eG n1),((D.aH.getD []).length:Int)):=L
  rw[if_neg hs]
  simp only[T7 gV,o.rX,L',gN iY,gN hv,Br (je o.results)]
  rw[gV,Ek (o:=En (u.results.getD [])) (by have:=mO o.results;simp only[Gc,Gg];omega) (by simp)]
  simp only[cond_false,Hb,show D.er.aH=D.aH.getD []from rfl]
  cases (D.aH.getD []).any (eG n1)with
  |false=>exact⟨_,_,rfl,rfl,by decide⟩
  |true=>
   have f16:=BE (r:=r) (x:={ u with results:=En (u.results.getD []++[⟨n1,u.version,v1⟩]) }) b.U (vO h1)
   have dE:({ r with units:=En ((r.units.getD []).set k { u with results:=En (u.results.getD []++[⟨n1,u.version,v1⟩]) }) }:au).er=ax r.er k { u.er with results:=u.results.getD []++[⟨n1,u.version,v1⟩] }:=by rw[zB rfl];rfl
   rw[gV]at f16
   by_cases h2:64≤(u.results.getD []).length
   ·simp only[show decide (64≤((u.results.getD []).length:Int))=Ga from decide_eq_true (by omega),if_pos h2,Gd,E3,if_false,cond_true]
    exact⟨_,_,rfl,rfl,by decide⟩
   ·simp only[show decide (64≤((u.results.getD []).length:Int))=I from decide_eq_false (by omega),if_neg h2,Gd,E3,if_false,cond_true,cond_false,Gc,f16]
    rw[gV]at dE
    exact⟨_,_,rfl,rfl,dE⟩
 ·rw[if_neg (show ¬e.kind=mL by rw[hk];decide),if_neg (show ¬e.kind=nG by rw[hk];decide),if_neg (show ¬e.kind=oT by rw[hk];decide),if_pos hk,show decide (e.kind=([117,115,101]:List UInt8))=I from decide_eq_false (by rw[hk];decide),show decide (e.kind=([112,97,105,114]:List UInt8))=I from decide_eq_false (by rw[hk];decide),show decide (e.kind=([109,101,97,115,117,114,101]:List UInt8))=I from decide_eq_false (by rw[hk];decide),show decide (e.kind=([117,112,100,97,116,101]:List UInt8))=Ga from decide_eq_true hk,o.new]
  simp only[cond_true,cond_false]
  by_cases hs:u.aj=Ga
  ·rw[hs];exact⟨_,_,rfl,rfl,by decide⟩
  have gV:u.aj=I:=by simpa using hs
  rw[if_neg hs]
  have f16:=BE (r:=r) (x:={ u with version:=v }) b.U (vO h1)
  have dE:({ r with units:=En ((r.units.getD []).set k { u with version:=v }) }:au).er=ax r.er k { u.er with version:=v }:=by rw[zB rfl];rfl
  rw[gV]at f16 dE
  simp only[T7 gV,(Mf (je b.P) o.new).2,f16]
  rw[gV]
  simp only[cond_false]
  by_cases h:u.version=v
  ·rw[decide_eq_true h,if_pos h];exact⟨_,_,rfl,rfl,by decide⟩
  ·rw[decide_eq_false h,if_neg h];exact⟨_,_,rfl,rfl,dE⟩
 ·rw[if_neg (show ¬e.kind=mL by rw[hk];decide),if_neg (show ¬e.kind=nG by rw[hk];decide),if_neg (show ¬e.kind=oT by rw[hk];decide),if_neg (show ¬e.kind=pP by rw[hk];decide),if_pos hk,show decide (e.kind=([117,115,101]:List UInt8))=I from decide_eq_false (by rw[hk];decide),show decide (e.kind=([112,97,105,114]:List UInt8))=I from decide_eq_false (by rw[hk];decide),show decide (e.kind=([109,101,97,115,117,114,101]:List UInt8))=I from decide_eq_false (by rw[hk];decide),show decide (e.kind=([117,112,100,97,116,101]:List UInt8))=I from decide_eq_false (by rw[hk];decide),show decide (e.kind=([115,104,105,112]:List UInt8))=Ga from decide_eq_true hk]
  have g2:=q75 (je b.P) o.new (je b.L) (je o.uses) o.ar o.rX o.wT (je o.aM) (je o.results) (je o.aH)
  have f16:=BE (r:=r) (x:={ u with aj:=Ga }) b.U (vO h1)
  simp only[cond_true,cond_false,g2,f16]
  by_cases h:oz (qe .i64) r.er u.er=0
  ·rw[decide_eq_true h,if_neg (fun hh=>hh h)];exact⟨_,_,rfl,rfl,zB rfl⟩
  ·rw[decide_eq_false h,if_pos h];exact⟨_,_,rfl,rfl,h⟩
 ·rw[if_neg (show ¬e.kind=mL by rw[hk];decide),if_neg (show ¬e.kind=nG by rw[hk];decide),if_neg (show ¬e.kind=oT by rw[hk];decide),if_neg (show ¬e.kind=pP by rw[hk];decide),if_neg (show ¬e.kind=iO by rw[hk];decide),show decide (e.kind=([117,115,101]:List UInt8))=I from decide_eq_false (by rw[hk];decide),show decide (e.kind=([112,97,105,114]:List UInt8))=I from decide_eq_false (by rw[hk];decide),show decide (e.kind=([109,101,97,115,117,114,101]:List UInt8))=I from decide_eq_false (by rw[hk];decide),show decide (e.kind=([117,112,100,97,116,101]:List UInt8))=I from decide_eq_false (by rw[hk];decide),show decide (e.kind=([115,104,105,112]:List UInt8))=I from decide_eq_false (by rw[hk];decide)]
  have f16:=BE (r:=r) (x:={ u with ak:=qe .i64 (u.ak+1) }) b.U (vO h1)
  have dE:({ r with units:=En ((r.units.getD []).set k { u with ak:=qe .i64 (u.ak+1) }) }:au).er=ax r.er k { u.er with ak:=qe .i64 (u.ak+1) }:=by rw[zB rfl];rfl
  simp only[cond_false]
  by_cases hs:u.aj=Ga
  ·rw[hs]at f16 dE ⊢
   simp only[f16]
   exact⟨_,_,rfl,rfl,dE⟩
  ·have gV:u.aj=I:=by simpa using hs
   rw[gV]
   exact⟨_,_,rfl,rfl,by decide⟩
end Go.Z
namespace Go.Z
open Go Go.Abs Go.W
variable {r:au}{e:GEv}
def zdd (v0:Int):pT→pT
 | .error k=>.error k
 | .ok s=>.ok { s with day:=v0 }
theorem oF {v0 x y}(h:gO x y):gO (qa x fun v=>En (⟨v0,v.1.ar,v.1.ae,v.1.units⟩,v.2)) (zdd v0 y):=by
 obtain⟨r',c,rfl,h2⟩:=h
 cases y with
 |error k=>exact⟨_,_,rfl,h2⟩
 |ok s=>exact⟨_,_,rfl,h2.1,by rw[←h2.2];rfl⟩
theorem jok (b:GB r)(w:WF r.er)(hc:zk e.er=0)(hu:e.kind≠nH)(iX:∀v∈e.values.getD [],0≤v):gO (Ik r e) (after (qe .i64) r.er e.er):=by
 obtain⟨_,f,h1,ie,oL⟩:=My hc
 have hm:(e.kind,f.1,f.2)∈dm:=by
  unfold yw at h1
  cases hf:dm.find? (fun x=>decide (x.1=e.er.kind))with
  |none=>rw[hf]at h1;cases h1
  |some x=>
   rw[hf]at h1
   have h2:=List.find?_some hf
   have h3:=List.mem_of_find?_eq_some hf
   have h4:x.1=e.kind:=of_decide_eq_true h2
   have h5:x.2=f:=by simpa using h1
   rw[←h4,←h5];exact h3
 have gK:∃v0 t,e.values.getD []=v0::t:=by
  have:(e.values.getD []).length=f.2:=oL
  cases hv:e.values.getD []with
  |cons v t=>exact⟨v,t,rfl⟩
  |nil=>
   rw[hv]at this
   simp only[dm,If,Prod.mk.injEq,Ha,or_false]at hm
   simp only[List.length_nil]at this
   rcases hm with h|h|h|h|h|h|h|h|h|h|h|h|h|h|h<;>first|(exfalso;omega)|exact absurd h.1 hu
 obtain⟨v0,t,hv⟩:=gK
 unfold Ik after
 rw[hH hv,vl0 hv]
 simp only[qa]
 by_cases hd:v0<r.day
 ·rw[decide_eq_true hd,if_pos (show v0<r.er.day from hd)]
  exact⟨_,_,rfl,rfl,by decide⟩
 rw[decide_eq_false hd,if_neg (show ¬v0<r.er.day from hd)]
 have vP:e.kind∈dm.map (·.1):=G8 (f:=(·.1)) hm
 simp only[dm,G9,Ih,If,List.mem_singleton,Ha,or_false]at vP
 have nk:∀ {k k':List UInt8},e.kind=k→decide (k=k')=I→decide (e.kind=k')=I:=by
  intro k k' h h2;rw[h];exact h2
 have yk:∀ {k:List UInt8},e.kind=k→decide (e.kind=k)=Ga:=fun h=>decide_eq_true h
 simp only[cond_false]
 rcases vP with h|h|h|h|h|h|h|h|h|h|h|h|h|h|h
 ·have q:=oF (v0:=v0) (j0c b h hc)
  rw[show decide (e.kind=([108,111,116]:List UInt8))=Ga from yk h]
  exact q
 ·have q:=oF (v0:=v0) (jfn b h hc)
  rw[show decide (e.kind=([108,111,116]:List UInt8))=I from nk h rfl,show decide (e.kind=([112,114,111,100,117,99,116]:List UInt8))=Ga from yk h]
  exact q
 ·have q:=oF (v0:=v0) (T1 b w (.inl rfl) h hc iX)
  rw[show decide (e.kind=([108,111,116]:List UInt8))=I from nk h rfl,show decide (e.kind=([112,114,111,100,117,99,116]:List UInt8))=I from nk h rfl,show decide (e.kind=([98,117,105,108,100]:List UInt8))=I from nk h rfl,show decide (e.kind=([110,101,101,100]:List UInt8))=Ga from yk h]
  exact q
 ·have q:=oF (v0:=v0) (T1 b w (.inr (.inl rfl)) h hc iX)
  rw[show decide (e.kind=([108,111,116]:List UInt8))=I from nk h rfl,show decide (e.kind=([112,114,111,100,117,99,116]:List UInt8))=I from nk h rfl,show decide (e.kind=([98,117,105,108,100]:List UInt8))=I from nk h rfl,show decide (e.kind=([110,101,101,100]:List UInt8))=I from nk h rfl,show decide (e.kind=([116,101,115,116]:List UInt8))=Ga from yk h]
  exact q
 ·have q:=oF (v0:=v0) (T1 b w (.inr (.inr rfl)) h hc iX)
  rw[show decide (e.kind=([108,111,116]:List UInt8))=I from nk h rfl,show decide (e.kind=([112,114,111,100,117,99,116]:List UInt8))=I from nk h rfl,show decide (e.kind=([98,117,105,108,100]:List UInt8))=I from nk h rfl,show decide (e.kind=([110,101,101,100]:List UInt8))=I from nk h rfl,show decide (e.kind=([116,101,115,116]:List UInt8))=I from nk h rfl,show decide (e.kind=([105,115,115,117,101]:List UInt8))=Ga from yk h]
  exact q
 ·have q:=oF (v0:=v0) (jn8 b h hc)
  rw[show decide (e.kind=([108,111,116]:List UInt8))=I from nk h rfl,show decide (e.kind=([112,114,111,100,117,99,116]:List UInt8))=I from nk h rfl,show decide (e.kind=([98,117,105,108,100]:List UInt8))=Ga from yk h]
  exact q
 all_goals try rw[show decide (e.kind=([108,111,116]:List UInt8))=I from nk h rfl,show decide (e.kind=([112,114,111,100,117,99,116]:List UInt8))=I from nk h rfl,show decide (e.kind=([98,117,105,108,100]:List UInt8))=I from nk h rfl,show decide (e.kind=([110,101,101,100]:List UInt8))=I from nk h rfl,show decide (e.kind=([116,101,115,116]:List UInt8))=I from nk h rfl,show decide (e.kind=([105,115,115,117,101]:List UInt8))=I from nk h rfl]
 ·rw[show decide (e.kind=([104,111,108,100]:List UInt8))=I from nk h rfl,show decide (e.kind=([102,114,101,101]:List UInt8))=I from nk h rfl]
  exact oF (v0:=v0) (Ew b w (by simp) h hc)
 ·rw[show decide (e.kind=([104,111,108,100]:List UInt8))=I from nk h rfl,show decide (e.kind=([102,114,101,101]:List UInt8))=I from nk h rfl]
  exact oF (v0:=v0) (Ew b w (by simp) h hc)
 ·rw[show decide (e.kind=([104,111,108,100]:List UInt8))=I from nk h rfl,show decide (e.kind=([102,114,101,101]:List UInt8))=I from nk h rfl]
  exact oF (v0:=v0) (Ew b w (by simp) h hc)
 ·rw[show decide (e.kind=([104,111,108,100]:List UInt8))=I from nk h rfl,show decide (e.kind=([102,114,101,101]:List UInt8))=I from nk h rfl]
  exact oF (v0:=v0) (Ew b w (by simp) h hc)
 ·rw[show decide (e.kind=([104,111,108,100]:List UInt8))=Ga from yk h]
  exact oF (v0:=v0) (jd6 b Ga h hc)
 ·rw[show decide (e.kind=([104,111,108,100]:List UInt8))=I from nk h rfl,show decide (e.kind=([102,114,101,101]:List UInt8))=Ga from yk h]
  exact oF (v0:=v0) (jd6 b I h hc)
 ·rw[show decide (e.kind=([104,111,108,100]:List UInt8))=I from nk h rfl,show decide (e.kind=([102,114,101,101]:List UInt8))=I from nk h rfl]
  exact oF (v0:=v0) (Ew b w (by simp) h hc)
 ·rw[show decide (e.kind=([104,111,108,100]:List UInt8))=I from nk h rfl,show decide (e.kind=([102,114,101,101]:List UInt8))=I from nk h rfl]
  exact oF (v0:=v0) (Ew b w (by simp) h hc)
 ·exact absurd h hu
end Go.Z
namespace Go.Z
open Go Go.Abs Go.W
def Il (s:List UInt8):Bool:=decide (s≠[])&&decide (s.length≤24)&&vQ 0 s
theorem qpc {s:List UInt8}{i c}(hc:s[i]?=En c):vQ i (s.drop i)=(pe i c.toNat&&vQ (i+1) (s.drop (i+1))):=by
 rw[pN hc];rfl
theorem jtw {s:List UInt8}:f90 s=En (Il s):=by
 unfold f90 Il
 by_cases h0:s=[]
 ·subst h0;rfl
 have hl:¬((s.length:Int)=0):=by
  intro h
  exact h0 (List.eq_nil_of_length_eq_zero (by omega))
 by_cases h1:(24:Int)<s.length
 ·have h2:¬s.length≤24:=by omega
  simp[hl,h0,h1,h2]
 ·have h2:s.length≤24:=by omega
  obtain⟨d,g1,g2⟩:=Hf s.length (fun i=>(i:Int)) (zJ s) (fun d=>match d with | .inl _=>I | .inr _=>Ga) (fun i=>vQ i (s.drop i)) ⟨.inr _,by unfold zJ;rw[yb];rfl,by rw[G6 (Nat.le_refl _)];rfl⟩ (fun i hi=>by
   obtain⟨c,hc⟩:∃c,s[i]?=En c:=⟨_,Gv hi⟩
   unfold zJ
   rw[qpc hc,kc hi,cond_true,jc hc,T8]
   simp only[jfa hi (show s.length≤9223372036854775807 by omega)]
   unfold pe
   have hx:0≤(c.toNat:Int):=by omega
   generalize (c.toNat:Int)=x at hx ⊢
   by_cases z:i=0
   ·subst z
    rcases kinds x with h|h|h|h|h|h|h|h|h <;>
     simp (disch:=omega) only[decide_eq_true,decide_eq_false,cond_true,cond_false,Gr,Gp,Gx,Gs,Gq,Gm] <;>
     first
      |exact .inl ⟨trivial,trivial⟩
      |exact .inl ⟨rfl,trivial⟩
      |exact .inl ⟨rfl,rfl⟩
      |exact .inr ⟨_,rfl,rfl⟩
   ·rcases kinds x with h|h|h|h|h|h|h|h|h <;>
     simp (disch:=omega) only[decide_eq_true,decide_eq_false,cond_true,cond_false,Gr,Jn,Gp,Gx,Gs,Gq,Gm] <;>
     first
      |exact .inl ⟨trivial,trivial⟩
      |exact .inl ⟨rfl,trivial⟩
      |exact .inl ⟨rfl,rfl⟩
      |exact .inr ⟨_,rfl,rfl⟩)
  have g1:bz (zJ s) 0=En d:=g1
  rw[decide_eq_false hl,cond_false,decide_eq_false h1,cond_false,g1,T8]
  simp only[h0,h2,ne_eq,not_false_eq_true,decide_true,Gq]
  rw[Hd]at g2
  rw[←g2]
  cases d<;>rfl
theorem qwr {s i c}(hc:s[i]?=En c):(c.toNat<128∧qn s i=(c.toNat,1))∨(128≤c.toNat∧128≤(qn s i).1):=by
 by_cases h:c.toNat<128
 ·exact .inl ⟨h,jfg hc h⟩
 ·exact .inr ⟨by omega,jee hc h⟩
theorem q0a {i x}(h:128≤x):pe i x=I:=by
 unfold pe
 simp (disch:=omega) only[decide_eq_false,Bool.or_self,G7]
def zd5:Nat→Option Nat
 |0=>none
 |i+1=>En (i+1)
theorem jut {s:List UInt8}:f81 s=En (Il s):=by
 unfold f81
 obtain⟨d,g1,g2⟩:=Hf s.length zd5 (Io s) (fun d=>match d with | .inl _=>I | .inr _=>Ga) (fun i=>vQ i (s.drop i)) (by
   rw[G6 (Nat.le_refl _)]
   cases hn:s.length with
   |zero=>
    refine⟨.inr 0,?_,rfl⟩
    show zK s=_
    unfold zK
    rw[hn];rfl
   |succ n=>
    refine⟨.inr (n+1),?_,rfl⟩
    show zL s (n+1)=_
    unfold zL
    rw[hn,decide_eq_false (by omega)];rfl) (fun i hi=>by
   obtain⟨c,hc⟩:∃c,s[i]?=En c:=⟨_,Gv hi⟩
   rw[qpc hc]
   cases i with
   |zero=>
    show(zK s=_∧_)∨(∃d,zK s=_∧_)
    unfold zK
    rw[decide_eq_true hi,cond_true]
    rcases qwr hc with⟨bw,he⟩|⟨vj,hr⟩
    ·rw[he]
     simp only[]
     have hx:0≤(c.toNat:Int):=by omega
     unfold pe
     generalize (c.toNat:Int)=x at hx ⊢
     rcases kinds x with h|h|h|h|h|h|h|h|h <;>
      simp (disch:=omega) only[decide_eq_true,decide_eq_false,cond_true,cond_false,Gr,Gp,Gx,Gs,Gq,Gm] <;>
      first
       |exact .inl ⟨trivial,trivial⟩
       |exact .inl ⟨rfl,trivial⟩
       |exact .inl ⟨rfl,rfl⟩
       |exact .inr ⟨_,rfl,rfl⟩
    ·rw[q0a (by omega)]
     generalize hd:qn s 0=dd at hr ⊢
     have jS:(128:Int)≤(dd.1:Int):=by omega
     generalize (dd.1:Int)=x at jS ⊢
     simp (disch:=omega) only[decide_eq_true,decide_eq_false,cond_true,cond_false,Gm]
     exact .inr ⟨_,rfl,rfl⟩
   |succ i=>
    show(zL s (i+1)=_∧_)∨(∃d,zL s (i+1)=_∧_)
    unfold zL
    rw[decide_eq_true hi,cond_true]
    rcases qwr hc with⟨bw,he⟩|⟨vj,hr⟩
    ·rw[he]
     simp only[]
     have hx:0≤(c.toNat:Int):=by omega
     unfold pe
     generalize (c.toNat:Int)=x at hx ⊢
     have e0:decide (((i+1:Nat):Int)=0)=I:=decide_eq_false (by omega)
     rcases kinds x with h|h|h|h|h|h|h|h|h <;>
      simp (disch:=omega) only[e0,decide_eq_true,decide_eq_false,cond_true,cond_false,Gr,Jn,Gp,Gx,Gs,Gq,Gm] <;>
      first
       |exact .inl ⟨trivial,trivial⟩
       |exact .inl ⟨rfl,trivial⟩
       |exact .inl ⟨rfl,rfl⟩
       |exact .inr ⟨_,rfl,rfl⟩
    ·rw[q0a (by omega)]
     generalize hd:qn s (i+1)=dd at hr ⊢
     have jS:(128:Int)≤(dd.1:Int):=by omega
     have e0:decide (((i+1:Nat):Int)=0)=I:=decide_eq_false (by omega)
     generalize (dd.1:Int)=x at jS ⊢
     simp (disch:=omega) only[e0,decide_eq_true,decide_eq_false,cond_true,cond_false,Gm]
     exact .inr ⟨_,rfl,rfl⟩)
 have g1:bz (Io s) none=En d:=g1
 rw[g1,T8]
 unfold Il
 rw[Hd]at g2
 cases d with
 |inl d=>simp only[]at g2;rw[←g2];simp
 |inr d=>
  simp only[]at g2
  rw[←g2]
  by_cases h0:s=[]
  ·subst h0;rfl
  ·have e:decide ((s.length:Int)≤24)=decide (s.length≤24):=by by_cases h:s.length≤24<;>simp[h]<;>omega
   rw[e]
   simp[h0]
theorem q8r {c}:pe 0 (c.toNat:Int)=vR c:=by
 unfold pe vR
 have h:∀a b:Nat,(decide ((a:Int)≤(c.toNat:Int)∧(c.toNat:Int)≤(b:Int)))=(decide (a≤c.toNat)&&decide (c.toNat≤b)):=by
  intro a b
  by_cases h1:a≤c.toNat<;>by_cases h2:c.toNat≤b<;>simp[h1,h2]<;>omega
 rw[show(65:Int)=((65:Nat):Int)from rfl,show(90:Int)=((90:Nat):Int)from rfl,show(97:Int)=((97:Nat):Int)from rfl,show(122:Int)=((122:Nat):Int)from rfl,h,h]
 simp
theorem jv0 {c i}:pe (i+1) (c.toNat:Int)=(vR c||Ez c):=by
 rw[←q8r]
 unfold pe Ez
 have h:(decide ((48:Int)≤(c.toNat:Int)∧(c.toNat:Int)≤(57:Int)))=(decide (48≤c.toNat)&&decide (c.toNat≤57)):=by
  by_cases h1:48≤c.toNat<;>by_cases h2:c.toNat≤57<;>simp[h1,h2]<;>omega
 have h3:decide ((c.toNat:Int)=95)=decide (c.toNat=95):=by
  by_cases h1:c.toNat=95
  ·rw[decide_eq_true h1];exact decide_eq_true (by omega)
  ·rw[decide_eq_false h1];exact decide_eq_false (by omega)
 rw[h,h3]
 simp
theorem q5b:∀ (s:List UInt8) (i:Nat),vQ (i+1) s=s.all fun c=>vR c||Ez c
 | [],_=>rfl
 |c::s,i=>by
  show(pe (i+1) c.toNat&&vQ (i+1+1) s)=_
  rw[jv0,q5b s (i+1)];rfl
theorem qvu {s}:Il s=Go.W.dc s:=by
 cases s with
 |nil=>rfl
 |cons c t=>
  show(decide (c::t≠[])&&decide ((c::t).length≤24)&&(pe 0 c.toNat&&vQ 1 t))=(vR c&&t.all (fun c=>vR c||Ez c)&&decide ((c::t).length≤24))
  rw[q8r,q5b t 0,show decide (c::t≠[])=Ga from decide_eq_true (by simp)]
  cases vR c<;>cases t.all (fun c=>vR c||Ez c)<;>cases decide ((c::t).length≤24)<;>rfl
variable {e:GEv}
theorem jo1 {s}:EA s=En (if Go.W.dc s then 0 else 8):=by
 unfold EA
 rw[jut,qvu]
 simp only[qa,iP]
 cases Go.W.dc s<;>rfl
theorem T9 {α:Type}{p c}(hc:c≠0):∀l:List α,fF (l.map fun x=>if p x then 0 else c)=if l.all p then 0 else c
 | []=>rfl
 |x::l=>by
  rw[G9,List.all_cons]
  cases p x with
  |true=>simp only[if_true,fF,Gq];exact T9 hc l
  |false=>simp[fF,hc]
theorem q8g {o}(hl:(o.getD []).length≤SM):f46 o=En (fF (o.getD [])):=by
 cases o with
 |none=>exact iQ (l:=[]) (Nat.zero_le _)
 |some l=>exact iQ hl
theorem jqu {o}(hl:(o.getD []).length≤SM):∃w,Ip o=En (jm ((o.getD []).map fun s=>if Go.W.dc s then 0 else 8),w):=by
 unfold Ip
 rw[Hs (f:=Iq o) (l:=o.getD []) (g:=fun s=>if Go.W.dc s then(0:Int)else 8) (q:=EA) hl (fun x _=>jo1) (fun s=>rfl)]
 exact⟨_,rfl⟩
def sj (n:Int):Bool:=decide (0≤n)&&decide (n≤999999999)
theorem jop {n}:EB n=En (if sj n then 0 else 3):=by
 unfold EB
 rw[Mt]
 simp only[qa]
 unfold sj
 by_cases h1:n<0
 ·rw[if_pos (Or.inl h1),decide_eq_false (by omega)];rfl
 ·by_cases h2:999999999<n
  ·rw[if_pos (Or.inr h2),decide_eq_true (by omega),decide_eq_false (by omega)];rfl
  ·rw[if_neg (by omega),decide_eq_true (by omega),decide_eq_true (by omega)];rfl
theorem jny {o}(hl:(o.getD []).length≤SM):∃w,Ir o=En (jm ((o.getD []).map fun s=>if sj s then 0 else 3),w):=by
 unfold Ir
 rw[Hs (f:=Iu o) (l:=o.getD []) (g:=fun s=>if sj s then(0:Int)else 3) (q:=EB) hl (fun x _=>jop) (fun s=>rfl)]
 exact⟨_,rfl⟩
theorem jca:∀ (k:List UInt8),oW k=none∧yw k=none∨∃f,oW k=En f∧yw k=En (f.2.1.length,f.2.2.1.toNat)∧0≤f.2.2.1:=by
 intro k
 unfold oW yw iN dm
 simp only[Hc,List.find?_nil,eq_comm (a:=k)]
 by_cases h1:mI=k
 ·simp[h1]
 by_cases h2:nE=k
 ·simp[h1,h2]
 by_cases h3:mJ=k
 ·simp[h1,h2,h3]
 by_cases h4:nF=k
 ·simp[h1,h2,h3,h4]
 by_cases h5:pO=k
 ·simp[h1,h2,h3,h4,h5]
 by_cases h6:mK=k
 ·simp[h1,h2,h3,h4,h5,h6]
 by_cases h7:mL=k
 ·simp[h1,h2,h3,h4,h5,h6,h7]
 by_cases h8:oT=k
 ·simp[h1,h2,h3,h4,h5,h6,h7,h8]
 by_cases h9:pP=k
 ·simp[h1,h2,h3,h4,h5,h6,h7,h8,h9]
 by_cases lf:nG=k
 ·simp[h1,h2,h3,h4,h5,h6,h7,h8,h9,lf]
 by_cases lC:ou=k
 ·simp[h1,h2,h3,h4,h5,h6,h7,h8,h9,lf,lC]
 by_cases l3:rT=k
 ·simp[h1,h2,h3,h4,h5,h6,h7,h8,h9,lf,lC,l3]
 by_cases pW:iO=k
 ·simp[h1,h2,h3,h4,h5,h6,h7,h8,h9,lf,lC,l3,pW]
 by_cases pf:yR=k
 ·simp[h1,h2,h3,h4,h5,h6,h7,h8,h9,lf,lC,l3,pW,pf]
 by_cases vS:nH=k
 ·simp[h1,h2,h3,h4,h5,h6,h7,h8,h9,lf,lC,l3,pW,pf,vS]
 ·simp[h1,h2,h3,h4,h5,h6,h7,h8,h9,lf,lC,l3,pW,pf,vS]
theorem jvf (h1:(e.names.getD []).length≤SM)(h2:(e.values.getD []).length≤SM):f47 e=En (zk e.er):=by
 obtain⟨w1,g1⟩:=jqu h1
 obtain⟨w2,g2⟩:=jny h2
 have q1:f46 (jm ((e.names.getD []).map fun s=>if Go.W.dc s then(0:Int)else 8))=En (if(e.names.getD []).all Go.W.dc then 0 else 8):=by
  rw[q8g (by rw[jy,Gl];exact h1),jy,T9 (by decide)]
 have q2:f46 (jm ((e.values.getD []).map fun s=>if sj s then(0:Int)else 3))=En (if(e.values.getD []).all sj then 0 else 3):=by
  rw[q8g (by rw[jy,Gl];exact h2),jy,T9 (by decide)]
 unfold f47
 simp only[Mt,iP,qa,g1,g2,q1,q2]
 rw[iQ (by simp[SM])]
 simp only[]
 rw[iQ (by simp[SM])]
 unfold zk
 rw[show e.er.number=e.number from rfl,show e.er.kind=e.kind from rfl,show e.er.names=e.names.getD []from rfl,show e.er.values=e.values.getD []from rfl,show e.er.text=e.text from rfl,show(fun n=>decide (0≤n)&&decide (n≤999999999))=sj from rfl]
 by_cases c1:e.number<1∨1000<e.number
 ·rw[if_pos c1,if_pos c1];rfl
 rw[if_neg c1,if_neg c1]
 rcases jca e.kind with⟨c2,cY⟩|⟨f,c2,cY,eX⟩
 ·rw[cY]
  simp only[Ea,za,nI,c2]
  simp[fF]
 rw[cY]
 simp only[Ea,za,nI,c2,Gh,Gd,E3,if_false]
 by_cases dl:(e.names.getD []).length≠f.2.1.length∨(e.values.getD []).length≠f.2.2.1.toNat
 ·have:(!(decide (((e.names.getD []).length:Int)=(f.2.1.length:Int))&&decide (((e.values.getD []).length:Int)=f.2.2.1)))=Ga:=by
   rcases dl with dl|dl
   ·rw[decide_eq_false (by omega)];rfl
   ·rw[decide_eq_false (p:=((e.values.getD []).length:Int)=f.2.2.1) (by omega),G7];rfl
  rw[this,if_pos dl]
  rfl
 ·have:(!(decide (((e.names.getD []).length:Int)=(f.2.1.length:Int))&&decide (((e.values.getD []).length:Int)=f.2.2.1)))=I:=by
   rw[decide_eq_true (by omega),decide_eq_true (p:=((e.values.getD []).length:Int)=f.2.2.1) (by omega)];rfl
  rw[this,if_neg dl]
  simp only[fF,E3,if_false,if_true,decide_true,cond_true]
  cases (e.names.getD []).all Go.W.dc<;>cases (e.values.getD []).all sj<;>by_cases dZ:e.text=[]<;>simp[dZ]
end Go.Z
namespace Go.Z
open Go Go.Abs Go.W
variable {e:GEv}
theorem jso:∀ (k:List UInt8),(f89 k=En ⟨0,0,I⟩∧yw k=none)∨∃a b:Nat,f89 k=En ⟨(a:Int),(b:Int),Ga⟩∧yw k=En (a,b):=by
 intro k
 by_cases h1:k=mI
 ·subst h1;exact .inr ⟨2,2,rfl,rfl⟩
 by_cases h2:k=nE
 ·subst h2;exact .inr ⟨1,1,rfl,rfl⟩
 by_cases h3:k=pO
 ·subst h3;exact .inr ⟨1,1,rfl,rfl⟩
 by_cases h4:k=pP
 ·subst h4;exact .inr ⟨1,1,rfl,rfl⟩
 by_cases h5:k=ou
 ·subst h5;exact .inr ⟨1,1,rfl,rfl⟩
 by_cases h6:k=rT
 ·subst h6;exact .inr ⟨1,1,rfl,rfl⟩
 by_cases h7:k=iO
 ·subst h7;exact .inr ⟨1,1,rfl,rfl⟩
 by_cases h8:k=yR
 ·subst h8;exact .inr ⟨1,1,rfl,rfl⟩
 by_cases h9:k=mJ
 ·subst h9;exact .inr ⟨2,2,rfl,rfl⟩
 by_cases lf:k=mL
 ·subst lf;exact .inr ⟨2,2,rfl,rfl⟩
 by_cases lC:k=oT
 ·subst lC;exact .inr ⟨2,2,rfl,rfl⟩
 by_cases l3:k=nF
 ·subst l3;exact .inr ⟨2,3,rfl,rfl⟩
 by_cases pW:k=mK
 ·subst pW;exact .inr ⟨2,1,rfl,rfl⟩
 by_cases pf:k=nG
 ·subst pf;exact .inr ⟨2,1,rfl,rfl⟩
 by_cases vS:k=nH
 ·subst vS;exact .inr ⟨0,0,rfl,rfl⟩
 refine .inl ⟨?_,?_⟩
 ·unfold f89
  simp only[decide_eq_false (p:=k=([108,111,116]:List UInt8)) h1,decide_eq_false (p:=k=([112,114,111,100,117,99,116]:List UInt8)) h2,decide_eq_false (p:=k=([105,115,115,117,101]:List UInt8)) h3,decide_eq_false (p:=k=([117,112,100,97,116,101]:List UInt8)) h4,decide_eq_false (p:=k=([104,111,108,100]:List UInt8)) h5,decide_eq_false (p:=k=([102,114,101,101]:List UInt8)) h6,decide_eq_false (p:=k=([115,104,105,112]:List UInt8)) h7,decide_eq_false (p:=k=([99,111,109,112,108,97,105,110]:List UInt8)) h8,decide_eq_false (p:=k=([110,101,101,100]:List UInt8)) h9,decide_eq_false (p:=k=([117,115,101]:List UInt8)) lf,decide_eq_false (p:=k=([109,101,97,115,117,114,101]:List UInt8)) lC,decide_eq_false (p:=k=([116,101,115,116]:List UInt8)) l3,decide_eq_false (p:=k=([98,117,105,108,100]:List UInt8)) pW,decide_eq_false (p:=k=([112,97,105,114]:List UInt8)) pf,decide_eq_false (p:=k=([117,110,100,111]:List UInt8)) vS,cond_false]
 ·unfold yw dm
  simp[Hc,Gi h1,Gi h2,Gi h3,Gi h4,Gi h5,Gi h6,Gi h7,Gi h8,Gi h9,Gi lf,Gi lC,Gi l3,Gi pW,Gi pf,Gi vS]
theorem jq4 {s}:f90 s=En (Go.W.dc s):=by rw[jtw,qvu]
theorem q2i {α:Type}{l:List α}{p:α→Bool}{f:Int→Option (Int⊕(Unit⊕Int))}{n}(hn:n=(l.length:Int))(hl:l.length≤SM)
  (cR:f n=En (.inr (.inr n))) (hf:∀(i:Nat) x,l[i]?=En x→i<l.length→f (i:Int)=En (if p x then .inl (qe .i64 ((i:Int)+1))else .inr (.inl ()))):
  ∃d,bz f 0=En d∧(match d with | .inl _=>I | .inr _=>Ga)=l.all p:=by
 subst hn
 obtain⟨d,h1,h2⟩:=TA l f p (fun d=>match d with | .inl _=>I | .inr _=>Ga) ⟨_,cR,rfl⟩ (fun i x hx hi=>by
  have h3:=hf i x hx hi
  cases hp:p x with
  |true=>rw[hp,ya (by unfold SM at hl;omega)]at h3;exact .inl ⟨rfl,h3⟩
  |false=>rw[hp]at h3;exact .inr ⟨rfl,_,h3,rfl⟩)
 exact⟨d,h1,h2⟩
theorem jx3 (h1:(e.names.getD []).length≤SM)(h2:(e.values.getD []).length≤SM):f33 e=En (zk e.er):=by
 unfold f33 zk
 rw[T0]
 simp only[qa]
 rw[show e.er.number=e.number from rfl,show e.er.kind=e.kind from rfl,show e.er.names=e.names.getD []from rfl,show e.er.values=e.values.getD []from rfl,show e.er.text=e.text from rfl,show(fun n=>decide (0≤n)&&decide (n≤999999999))=sj from rfl]
 by_cases c1:e.number<1∨1000<e.number
 ·rw[decide_eq_true c1,if_pos c1];rfl
 rw[decide_eq_false c1,if_neg c1]
 simp only[cond_false]
 rcases jso e.kind with⟨c2,cY⟩|⟨a,b,c2,cY⟩
 ·rw[c2,cY];rfl
 rw[c2,cY]
 simp only[cond_true]
 by_cases dl:(e.names.getD []).length=a
 case neg=>rw[decide_eq_false (by omega),if_pos (.inl dl)];rfl
 by_cases dZ:(e.values.getD []).length=b
 case neg=>rw[decide_eq_true (by omega),decide_eq_false (p:=((e.values.getD []).length:Int)=(b:Int)) (by omega),if_pos (.inr dZ)];rfl
 rw[decide_eq_true (by omega),decide_eq_true (p:=((e.values.getD []).length:Int)=(b:Int)) (by omega),if_neg (by omega)]
 simp only[cond_true]
 obtain⟨d,g1,g2⟩:=q2i (l:=e.names.getD []) (p:=Go.W.dc) (f:=BF e ⟨(a:Int),(b:Int),Ga⟩) (n:=(a:Int)) (by omega) h1 (by unfold BF;simp only[yb];rfl) (fun i x hx hi=>by
  unfold BF
  simp only[show decide ((i:Int)<(a:Int))=Ga from decide_eq_true (by omega),cond_true,qa,jc hx,jq4]
  cases Go.W.dc x<;>rfl)
 obtain⟨d2,g3,g4⟩:=q2i (l:=e.values.getD []) (p:=sj) (f:=BG e ⟨(a:Int),(b:Int),Ga⟩) (n:=(b:Int)) (by omega) h2 (by unfold BG;simp only[yb];rfl) (fun i x hx hi=>by
  unfold BG
  simp only[show decide ((i:Int)<(b:Int))=Ga from decide_eq_true (by omega),cond_true,qa,jc hx,T0]
  unfold sj
  by_cases k1:x<0
  ·rw[decide_eq_true (Or.inl k1),decide_eq_false (p:=0≤x) (by omega)];rfl
  ·by_cases k2:999999999<x
   ·rw[decide_eq_true (Or.inr k2),decide_eq_false (p:=x≤999999999) (by omega),G7];rfl
   ·rw[decide_eq_false (p:=x<0∨999999999<x) (by omega),decide_eq_true (p:=0≤x) (by omega),decide_eq_true (p:=x≤999999999) (by omega)];rfl)
 rw[g1,←g2,←g4]
 cases d with
 |inl d=>rfl
 |inr d=>
  simp only[]
  rw[g3]
  cases d2 with
  |inl d2=>rfl
  |inr d2=>
   by_cases mR:e.text=[]
   ·rw[decide_eq_true mR];simp[mR]
   ·rw[decide_eq_false mR];simp[mR]
end Go.Z
