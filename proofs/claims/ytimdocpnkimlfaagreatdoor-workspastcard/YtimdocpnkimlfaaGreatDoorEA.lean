/- Chapter 10, plain. -/
import Derived.Test.YtimdocpnkimlfaaGreatDoorE1
set_option linter.unusedVariables false
set_option linter.unusedSimpArgs false
set_option maxRecDepth 100000
set_option maxHeartbeats 4000000
open Bool renaming false→I,false_eq_true→Ga,true→Gb,not_true→Ge,false_and→Gn,false_or→Gq,true_and→Gr,or_false→Gs,and_true→Gt,not_eq_true→Gy,true_or→Gz,and_false→G9,or_true→Jp
open Option renaming some→En,getD_some→Gd,isSome_some→Gi,any_some→Hd
open List renaming length_singleton→Gh,length_map→Gm,getElem?_eq_getElem→Gx,length_set→G7,drop_eq_nil_of_le→G8,mem_map_of_mem→Ha,map_cons→Hb,not_mem_nil→Hc,find?_cons→He,drop_zero→If,mem_cons→Ig,map_nil→Ix,map_set→Jk
open Ne renaming symm→Gj
namespace Go.Z
open Go Go.Abs Go.W
variable {r:ak}{e:GEv}
theorem T1 {a lo hi}:f88 a lo hi=En (decide (a<lo∨hi<a)):=by
 unfold f88
 by_cases h:a<lo
 ·simp[h]
 ·simp[h]
theorem zF {o}:decide (eS o<0)=!o.isSome:=by
 cases o with
 |none=>rfl
 |some k=>exact decide_eq_false (by show ¬(k:Int)<0;omega)
theorem j7x (b:GB r)(hk:e.kind=mF)(hc:zb e.er=0):gT (rQ r e) (apply (qe .i64) r.er e.er):=by
 obtain⟨h1,h2⟩:=kh hk (show yt mF=En (2,2)from rfl) hc
 obtain⟨n0,n1,hn⟩:=gU h1
 obtain⟨v0,v1,hv⟩:=gU h2
 unfold apply lW
 rw[show e.er.kind=mF from hk,if_pos (by decide),if_pos rfl,fj hn,lV hn,vE hv,wQ]
 unfold rQ
 simp only[gR hn,gS hn,gS hv,qa,Hh (jk b.L),wP,T1,Bq (jk b.L)]
 rw[show decide (e.kind=([108,111,116]:List UInt8))=Gb from decide_eq_true hk,Ee (o:=En (r.au.getD [])) (by have:=mK b.L;simp only[Gd,Gh];omega) (by simp)]
 simp only[cond_true]
 cases (zy r.er n0).isSome with
 |true=>exact⟨_,_,rfl,rfl,by decide⟩
 |false=>
  by_cases h1:v1<1∨10000<v1
  ·simp only[decide_eq_true h1,if_pos h1]
   exact⟨_,_,rfl,rfl,by decide⟩
  ·simp only[decide_eq_false h1,if_neg h1]
   by_cases h2:64≤(r.au.getD []).length
   ·simp only[show decide (64≤((r.au.getD []).length:Int))=Gb from decide_eq_true (by omega),wQ,if_pos h2,Ga,if_false]
    exact⟨_,_,rfl,rfl,by decide⟩
   ·simp only[show decide (64≤((r.au.getD []).length:Int))=I from decide_eq_false (by omega),wQ,if_neg h2,Ga,if_false]
    exact⟨_,_,rfl,rfl,rfl⟩
theorem jec (b:GB r)(hk:e.kind=nv)(hc:zb e.er=0):gT (rQ r e) (apply (qe .i64) r.er e.er):=by
 obtain⟨h1,h2⟩:=kh hk (show yt nv=En (1,1)from rfl) hc
 obtain⟨n0,hn⟩:=jH h1
 unfold apply lW
 rw[show e.er.kind=nv from hk,if_pos (by decide),if_neg (by decide),if_pos rfl,fj hn]
 have hl:r.er.ae.length=(r.ae.getD []).length:=by rw[pP,Gm]
 unfold rQ
 simp only[gR hn,qa,D7 (jk b.P),wP,Bq (jk b.P),hl]
 rw[show decide (e.kind=([108,111,116]:List UInt8))=I from decide_eq_false (by rw[hk];decide),show decide (e.kind=([112,114,111,100,117,99,116]:List UInt8))=Gb from decide_eq_true hk,Ee (o:=En (r.ae.getD [])) (by have:=mK b.P;simp only[Gd,Gh];omega) (by simp)]
 simp only[cond_true,cond_false]
 cases (zx r.er n0).isSome with
 |true=>exact⟨_,_,rfl,rfl,by decide⟩
 |false=>
  by_cases h2:16≤(r.ae.getD []).length
  ·simp only[show decide (16≤((r.ae.getD []).length:Int))=Gb from decide_eq_true (by omega),if_pos h2]
   exact⟨_,_,rfl,rfl,by decide⟩
  ·simp only[show decide (16≤((r.ae.getD []).length:Int))=I from decide_eq_false (by omega),if_neg h2]
   exact⟨_,_,rfl,rfl,qxa rfl⟩
theorem jpr (b:GB r)(hk:e.kind=mH)(hc:zb e.er=0):gT (rQ r e) (apply (qe .i64) r.er e.er):=by
 obtain⟨h1,h2⟩:=kh hk (show yt mH=En (2,1)from rfl) hc
 obtain⟨n0,n1,hn⟩:=gU h1
 unfold apply lW
 rw[show e.er.kind=mH from hk,if_pos (by decide),if_neg (by decide),if_neg (by decide),fj hn,lV hn]
 have hl:r.er.units.length=(r.units.getD []).length:=by rw[rN,Gm]
 unfold rQ
 simp only[gR hn,gS hn,qa,D7 (jk b.P),LQ (jk b.U),wP,zF,Bq (jk b.U),hl]
 rw[show decide (e.kind=([108,111,116]:List UInt8))=I from decide_eq_false (by rw[hk];decide),show decide (e.kind=([112,114,111,100,117,99,116]:List UInt8))=I from decide_eq_false (by rw[hk];decide)]
 simp only[cond_false]
 unfold kq
 cases hp:zx r.er n1 with
 |none=>exact⟨_,_,rfl,rfl,by decide⟩
 |some k=>
  obtain⟨p,g1,_,g3⟩:=Ei hp
  have hd:p.er.aH.isEmpty=decide (((p.aH.getD []).length:Int)=0):=by
   show((p.aH.getD []).map bf.er).isEmpty=_
   cases p.aH.getD []with
   |nil=>rfl
   |cons x l=>simp;omega
  have oS:p.er.aH.length=(p.aH.getD []).length:=by show((p.aH.getD []).map bf.er).length=_;rw[Gm]
  simp only[Gi,Ge,cond_false,y8,q9 g1,Option.bind_some,g3,hd,oS]
  rw[Ee (o:=En (r.units.getD [])) (by have:=mK b.U;simp only[Gd,Gh];omega) (by simp)]
  cases (zu r.er n0).isSome with
  |true=>exact⟨_,_,rfl,rfl,by decide⟩
  |false=>
   cases decide (((p.aH.getD []).length:Int)=0)with
   |true=>exact⟨_,_,rfl,rfl,by decide⟩
   |false=>
    by_cases h2:256≤(r.units.getD []).length
    ·simp only[show decide (256≤((r.units.getD []).length:Int))=Gb from decide_eq_true (by omega),if_pos h2]
     exact⟨_,_,rfl,rfl,by decide⟩
    ·simp only[show decide (256≤((r.units.getD []).length:Int))=I from decide_eq_false (by omega),if_neg h2]
     exact⟨_,_,rfl,rfl,qwc rfl⟩
theorem q7k (b:GB r){k x}(hk:k<(r.au.getD []).length):zG r (k:Int) x=En { r with au:=En ((r.au.getD []).set k x) }:=by
 unfold zG;rw[TJ (jk b.L) hk];rfl
theorem joe (b:GB r){k x}(hk:k<(r.ae.getD []).length):zH r (k:Int) x=En { r with ae:=En ((r.ae.getD []).set k x) }:=by
 unfold zH;rw[TJ (jk b.P) hk];rfl
theorem BD (hb:(r.units.getD []).length≤BB){k x}(hk:k<(r.units.getD []).length):f267 r (k:Int) x=En { r with units:=En ((r.units.getD []).set k x) }:=by
 unfold f267;rw[TJ (jk hb) hk];rfl
theorem vH {α:Type}{l:List α}{k x}(h:l[k]?=En x):k<l.length:=(List.getElem?_eq_some_iff.1 h).1
theorem jdv (b:GB r)(hold:Bool)(hk:e.kind=if hold then oi else rM)(hc:zb e.er=0):gT (Et r e) (apply (qe .i64) r.er e.er):=by
 obtain⟨h1,h2⟩:=kh (a:=1) (c:=1) hk (by cases hold<;>rfl) hc
 obtain⟨n0,hn⟩:=jH h1
 rw[k9 hk (by cases hold<;>decide) (by cases hold<;>decide),if_pos (by cases hold<;>decide)]
 unfold oU
 rw[fj hn]
 unfold Et
 simp only[gR hn,qa,Hh (jk b.L),zF]
 cases hp:zy r.er n0 with
 |none=>exact⟨_,_,rfl,rfl,by decide⟩
 |some k=>
  obtain⟨x,g1,_⟩:=HY hp
  simp only[Gi,Ge,cond_false,y8,q9 g1,wQ,g1,q7k b (vH g1),show e.er.kind=e.kind from rfl]
  cases hold with
  |true=>
   have hk:e.kind=oi:=hk
   rw[show decide (e.kind=([104,111,108,100]:List UInt8))=Gb from decide_eq_true hk,show decide (e.kind=([102,114,101,101]:List UInt8))=I from decide_eq_false (by rw[hk];decide),if_pos hk]
   by_cases hh:x.held=Gb
   ·simp only[hh,cond_true,if_true];exact⟨_,_,rfl,rfl,by decide⟩
   ·rw[Gy]at hh
    simp only[hh,cond_true,cond_false,Ga,if_false];exact⟨_,_,rfl,rfl,L6 rfl⟩
  |false=>
   have hk:e.kind=rM:=hk
   rw[show decide (e.kind=([104,111,108,100]:List UInt8))=I from decide_eq_false (by rw[hk];decide),show decide (e.kind=([102,114,101,101]:List UInt8))=Gb from decide_eq_true hk,if_neg (by rw[hk];decide)]
   by_cases hh:x.held=Gb
   ·simp only[hh,cond_true,cond_false,Ge,Ga,if_false];exact⟨_,_,rfl,rfl,L6 rfl⟩
   ·rw[Gy]at hh
    simp only[hh,cond_true,cond_false,Bool.not_false,if_true];exact⟨_,_,rfl,rfl,by decide⟩
theorem q2f {α:Type}{l:List α}{p x}(h:l.length≤16):16<(kc p x l).length↔(!(l.any p))=Gb∧16≤l.length:=by
 unfold kc
 rw[Ec]
 cases hi:l.findIdx? p with
 |some i=>
  simp only[G7]
  constructor
  ·intro h2;omega
  ·rintro ⟨h2,_⟩;cases h2
 |none=>
  simp only[List.length_append,Gh]
  constructor
  ·intro h2;exact⟨rfl,by omega⟩
  ·rintro ⟨_,h2⟩;omega
theorem T2 (b:GB r)(w:WF r.er){kk:List UInt8}(iw:kk=mG∨kk=nw∨kk=pN)(hk:e.kind=kk)(hc:zb e.er=0)(gi:∀v∈e.values.getD [],0≤v):gT (zI r e) (apply (qe .i64) r.er e.er):=by
 have hR:apply (qe .i64) r.er e.er=kn r.er e.er:=by
  unfold apply
  rw[show e.er.kind=kk from hk,if_neg (by rcases iw with rfl|rfl|rfl<;>decide),if_pos iw]
 rw[hR]
 obtain⟨n0,t,hn⟩:∃n0 t,e.names.getD []=n0::t:=by
  rcases iw with rfl|rfl|rfl
  ·obtain⟨a,c,h⟩:=gU (kh (c:=2) hk rfl hc).1;exact⟨_,_,h⟩
  ·obtain⟨a,c,h⟩:=gU (kh (c:=3) hk rfl hc).1;exact⟨_,_,h⟩
  ·obtain⟨a,h⟩:=jH (kh (c:=1) hk rfl hc).1;exact⟨_,_,h⟩
 cases hp:zx r.er n0 with
 |none=>
  unfold kn
  rw[fj hn,hp]
  unfold zI
  simp only[gR hn,qa,D7 (jk b.P),zF,hp]
  exact⟨_,_,rfl,rfl,by decide⟩
 |some k=>
 obtain⟨p,g1,_,g3⟩:=Ei hp
 have hm:=List.mem_of_getElem? g1
 have hD:=b.D p hm
 have Ik:p.er∈r.er.ae:=by rw[pP];exact Ha hm
 have hkn:=w.aB _ Ik
 have hkt:=w.aA _ Ik
 have T3:z6 (·.k) (p.dn.getD []):=hkn.1
 have T4:(p.dn.getD []).length≤16:=hkn.2
 have T5:z6 (·.k) (p.dt.getD []):=hkt.1
 have T6:(p.dt.getD []).length≤16:=hkt.2
 rw[L7 (fj hn) hp g3]
 unfold zI
 simp only[gR hn,qa,D7 (jk b.P),zF,hp,Gi,Ge,cond_false,y8,q9 g1,joe b (vH g1)]
 rcases iw with rfl|rfl|rfl
 ·obtain⟨h1,h2⟩:=kh (a:=2) (c:=2) hk rfl hc
  obtain⟨n0',n1,jE⟩:=gU h1
  obtain⟨v0,v1,hv⟩:=gU h2
  have h0:0≤v1:=gi v1 (by rw[hv];simp)
  obtain⟨v,ww,f1,f2⟩:=jpl (x:=⟨n1,v1⟩) (mK hD.2.1) T3 h0
  have f2:v.getD []=kr (p.dn.getD []) n1 v1:=f2
  rw[if_pos hk,lV jE,vE hv]
  simp only[gS hv,gS jE,f1,show decide (e.kind=([110,101,101,100]:List UInt8))=Gb from decide_eq_true hk,cond_true]
  by_cases hz:10000<v1
  ·rw[decide_eq_true hz,if_pos (Or.inr hz)];exact⟨_,_,rfl,rfl,by decide⟩
  ·rw[decide_eq_false hz,if_neg (show ¬(v1<0∨10000<v1) by omega)]
   have dQ:({ r with ae:=En ((r.ae.getD []).set k ⟨p.name,v,p.dt,p.aH⟩) }:ak).er=bP r.er k { p.er with bV:={ p.er.bV with aB:=kr (p.dn.getD []) n1 v1 } }:=by
    rw[Ej rfl]
    congr 1
    simp only[aC.er,f2]
   have hlen:decide (16<((v.getD []).length:Int))=decide (16<(kr (p.dn.getD []) n1 v1).length):=by
    rw[f2]
    by_cases h:16<(kr (p.dn.getD []) n1 v1).length
    ·rw[decide_eq_true h];exact decide_eq_true (by omega)
    ·rw[decide_eq_false h];exact decide_eq_false (by omega)
   have lY:16<(kr (p.dn.getD []) n1 v1).length↔(0<v1∧(!(p.dn.getD []).any (dj n1))=Gb∧16≤(p.dn.getD []).length):=by
    unfold kr
    by_cases pK:v1=0
    ·rw[if_pos pK]
     have:=List.length_filter_le (fun x=>!dj n1 x) (p.dn.getD [])
     constructor
     ·intro h;omega
     ·rintro ⟨h,_⟩;omega
    ·rw[if_neg pK,q2f T4]
     constructor
     ·intro h;exact⟨by omega,h⟩
     ·exact fun h=>h.2
   simp only[cond_false,hlen]
   by_cases nB:16<(kr (p.dn.getD []) n1 v1).length
   ·rw[decide_eq_true nB,if_pos (lY.1 nB)]
    cases ww<;>exact⟨_,_,rfl,rfl,by decide⟩
   ·rw[decide_eq_false nB,if_neg (fun h=>nB (lY.2 h))]
    cases ww<;>exact⟨_,_,rfl,rfl,dQ⟩
 ·obtain⟨h1,h2⟩:=kh (a:=2) (c:=3) hk rfl hc
  obtain⟨n0',n1,jE⟩:=gU h1
  obtain⟨v0,v1,v2,hv⟩:=jr5 h2
  obtain⟨v,ww,f1,f2⟩:=jqa (x:=⟨n1,v1,v2⟩) (mK hD.2.2.1) T5
  have f2:v.getD []=kc (eT n1) ⟨n1,v1,v2⟩ (p.dt.getD []):=f2
  rw[if_neg (show ¬e.kind=mG by rw[hk];decide),if_pos hk,lV jE,vE hv,vl2 hv]
  simp only[gS hv,jv9 hv,gS jE,f1,show decide (e.kind=([110,101,101,100]:List UInt8))=I from decide_eq_false (by rw[hk];decide),show decide (e.kind=([116,101,115,116]:List UInt8))=Gb from decide_eq_true hk,cond_true,cond_false]
  by_cases hz:v2<v1
  ·rw[decide_eq_true hz,if_pos hz];exact⟨_,_,rfl,rfl,by decide⟩
  ·rw[decide_eq_false hz,if_neg hz]
   have dQ:({ r with ae:=En ((r.ae.getD []).set k ⟨p.name,p.dn,v,p.aH⟩) }:ak).er=bP r.er k { p.er with bV:={ p.er.bV with aA:=kc (eT n1) ⟨n1,v1,v2⟩ (p.dt.getD []) } }:=by
    rw[Ej rfl]
    congr 1
    simp only[aC.er,f2]
   have hlen:decide (16<((v.getD []).length:Int))=decide (16<(kc (eT n1) ⟨n1,v1,v2⟩ (p.dt.getD [])).length):=by
    rw[f2]
    by_cases h:16<(kc (eT n1) ⟨n1,v1,v2⟩ (p.dt.getD [])).length
    ·rw[decide_eq_true h];exact decide_eq_true (by omega)
    ·rw[decide_eq_false h];exact decide_eq_false (by omega)
   have lY:=q2f (p:=eT n1) (x:=(⟨n1,v1,v2⟩:jc)) T6
   simp only[cond_false,hlen]
   by_cases nB:16<(kc (eT n1) ⟨n1,v1,v2⟩ (p.dt.getD [])).length
   ·rw[decide_eq_true nB,if_pos (lY.1 nB)]
    cases ww<;>exact⟨_,_,rfl,rfl,by decide⟩
   ·rw[decide_eq_false nB,if_neg (fun h=>nB (lY.2 h))]
    cases ww<;>exact⟨_,_,rfl,rfl,dQ⟩
 ·rw[if_neg (show ¬e.kind=mG by rw[hk];decide),if_neg (show ¬e.kind=nw by rw[hk];decide)]
  simp only[show decide (e.kind=([110,101,101,100]:List UInt8))=I from decide_eq_false (by rw[hk];decide),show decide (e.kind=([116,101,115,116]:List UInt8))=I from decide_eq_false (by rw[hk];decide),cond_false,Bq (jk hD.1)]
  rw[Ee (o:=En (p.aH.getD [])) (by have:=mK hD.1;simp only[Gd,Gh];omega) (by simp)]
  have oS:p.er.aH.length=(p.aH.getD []).length:=by show((p.aH.getD []).map bf.er).length=_;rw[Gm]
  have hd:(p.dn.getD []).isEmpty=decide (((p.dn.getD []).length:Int)=0):=by
   cases p.dn.getD []with
   |nil=>rfl
   |cons x l=>simp;omega
  have dQ:({ r with ae:=En ((r.ae.getD []).set k ⟨p.name,p.dn,p.dt,En (p.aH.getD []++[⟨p.dn,p.dt⟩])⟩) }:ak).er=bP r.er k { p.er with aH:=p.er.aH++[p.er.bV] }:=by
   rw[Ej rfl]
   congr 1
   simp only[aC.er,Gd,List.map_append,Hb,Ix]
   rfl
  simp only[hd,oS]
  cases decide (((p.dn.getD []).length:Int)=0)with
  |true=>exact⟨_,_,rfl,rfl,by decide⟩
  |false=>
   by_cases h2:100≤(p.aH.getD []).length
   ·simp only[show decide (100≤((p.aH.getD []).length:Int))=Gb from decide_eq_true (by omega),if_pos h2,Ga,if_false]
    exact⟨_,_,rfl,rfl,by decide⟩
   ·simp only[show decide (100≤((p.aH.getD []).length:Int))=I from decide_eq_false (by omega),if_neg h2,Ga,if_false]
    exact⟨_,_,rfl,rfl,dQ⟩
end Go.Z
namespace Go.Z
open Go Go.Abs Go.W
variable {r:ak}{e:GEv}
theorem T7 {α:Type}(p:α→Bool):∀(l:List α) (c:Bool),l.foldl (fun c x=>if c then Gb else p x) c=(c||l.any p)
 | [],c=>by simp
 |x::l,c=>by
  rw[List.foldl_cons,T7 p l,List.any_cons]
  cases c<;>simp
theorem T8 {u}(h:u.ar=I):(⟨u.name,u.product,u.version,u.uses,u.results,u.partner,I,u.ah⟩:bg)=u:=by cases u;simp only at h;rw[h]
theorem j6d (b:GB r)(w:WF r.er)(hk:e.kind=mI)(hc:zb e.er=0){k:Nat}{u n0 n1 v0 v1}(hn:e.names.getD []=[n0,n1])(hv:e.values.getD []=[v0,v1])(h1:(r.units.getD [])[k]?=En u):gT (f263 r (k:Int) e) (pT (qe .i64) r.er k u.er e.er):=by
 obtain⟨D,v,o⟩:=Em b w h1
 unfold pT
 rw[lV hn,vE hv,o.El]
 unfold f263
 simp only[q9 h1,gS hn,gS hv,qa,Hh (jk b.L),zF]
 cases hq:zy r.er n1 with
 |none=>exact⟨_,_,rfl,rfl,by decide⟩
 |some j=>
 obtain⟨x,h4,_⟩:=HY hq
 simp only[Gi,Ge,cond_false,y8,q9 h4,wQ,h4]
 by_cases hs:u.ar=Gb
 ·rw[hs,if_pos (show u.er.ar=Gb from hs)];exact⟨_,_,rfl,rfl,by decide⟩
 rw[if_neg (show ¬u.er.ar=Gb from hs)]
 rw[Gy]at hs
 simp only[T8 hs,o.Bw]
 rw[hs]
 simp only[cond_false]
 by_cases hz:v1=0
 ·rw[decide_eq_true hz,if_pos hz];exact⟨_,_,rfl,rfl,by decide⟩
 rw[decide_eq_false hz,if_neg hz]
 simp only[cond_false]
 by_cases hh:x.held=Gb
 ·rw[hh];exact⟨_,_,rfl,rfl,by decide⟩
 have RW:x.held=I:=by simpa using hh
 have L:=Hp (D.aB.getD []) (zJ r (k:Int) e u (j:Int) x D) (fun i (c:Bool)=>(c,(i:Int))) (fun c y=>if c then Gb else dj x.kind y) (fun c=>(c,((D.aB.getD []).length:Int))) I (fun c=>by unfold zJ;simp only[zq];rfl)
  (fun i c y hy hi=>by
   unfold zJ
   simp only[yc hi,cond_true,qa,q9 hy]
   rw[ye (by have:=o.aB;unfold BB at this;omega)]
   cases c<;>rfl)
 rw[T7,Gq]at L
 have L':bu (zJ r (k:Int) e u (j:Int) x D) (I,0)=En ((D.aB.getD []).any (dj x.kind),((D.aB.getD []).length:Int)):=L
 rw[if_neg hh]
 simp only[RW,cond_false,L',Hd,show D.er.aB=D.aB.getD []from rfl]
 cases (D.aB.getD []).any (dj x.kind)with
 |false=>exact⟨_,_,rfl,rfl,by decide⟩
 |true=>
 simp only[cond_true,Ge,Ga,if_false]
 by_cases hl:x.left<v1
 ·rw[decide_eq_true hl,if_pos hl];exact⟨_,_,rfl,rfl,by decide⟩
 rw[decide_eq_false hl,if_neg hl]
 obtain⟨q,wq,q1,q2⟩:=jn6 (o:=u.uses) (k:=x.name) (n:=v1) (mK o.uses) o.keyed
 rw[q1]
 simp only[cond_false,q7k b (vH h4)]
 rw[show(⟨u.name,u.product,u.version,q,u.results,u.partner,I,u.ah⟩:bg)={ u with uses:=q } by rw[←hs]]
 have f16:=BD (r:={ r with au:=En ((r.au.getD []).set j ⟨x.name,x.kind,x.count,qe .i64 (x.left-v1),I⟩) }) (x:={ u with uses:=q }) b.U (vH h1)
 have dQ:({ r with au:=En ((r.au.getD []).set j ⟨x.name,x.kind,x.count,qe .i64 (x.left-v1),I⟩),units:=En ((r.units.getD []).set k { u with uses:=q }) }:ak).er=ay (b6 r.er j ⟨x.name,x.kind,x.count,qe .i64 (x.left-v1),I⟩) k { u.er with uses:=jP (qe .i64) u.er.uses x.name v1 }:=by
  simp only[ak.er,ay,b6,Gd,Jk]
  congr 2
  simp only[bg.er,q2]
 simp only[f16]
 cases wq<;>exact⟨_,_,rfl,rfl,dQ⟩
theorem jwr (b:GB r)(hk:e.kind=nx)(hc:zb e.er=0){k:Nat}{u n0 n1}(hn:e.names.getD []=[n0,n1])(h1:(r.units.getD [])[k]?=En u):gT (f264 r (k:Int) e) (pU r.er k u.er e.er):=by
 unfold pU
 rw[lV hn]
 unfold f264
 simp only[q9 h1,gS hn,qa,LQ (jk b.U),zF]
 cases hq:zu r.er n1 with
 |none=>exact⟨_,_,rfl,rfl,by decide⟩
 |some j=>
 obtain⟨v,h4,_,h5⟩:=rP hq
 rw[y8]
 simp only[Gi,Ge,cond_false,q9 h4,h5]
 by_cases c1:k=j
 ·rw[if_pos c1,@decide_eq_true ((j:Int)=(k:Int)) _ (by omega)];exact⟨_,_,rfl,rfl,by decide⟩
 rw[if_neg c1,@decide_eq_false ((j:Int)=(k:Int)) _ (by omega)]
 simp only[cond_false]
 by_cases c2:u.product=v.product
 case neg=>rw[decide_eq_false c2,if_pos (show u.er.product≠v.er.product∨u.er.version≠v.er.version from Or.inl c2)];exact⟨_,_,rfl,rfl,by decide⟩
 by_cases cT:u.version=v.version
 case neg=>rw[decide_eq_true c2,decide_eq_false cT,if_pos (show u.er.product≠v.er.product∨u.er.version≠v.er.version from Or.inr cT)];exact⟨_,_,rfl,rfl,by decide⟩
 rw[if_neg (show ¬(u.er.product≠v.er.product∨u.er.version≠v.er.version)from fun h=>h.elim (fun h=>h c2) (fun h=>h cT)),decide_eq_true c2,decide_eq_true cT]
 simp only[cond_true]
 by_cases fk:u.ar=Gb
 ·rw[if_pos (show u.er.ar=Gb∨v.er.ar=Gb from Or.inl fk),fk];exact⟨_,_,rfl,rfl,by decide⟩
 by_cases cU:v.ar=Gb
 ·rw[if_pos (show u.er.ar=Gb∨v.er.ar=Gb from Or.inr cU)]
  have kY:u.ar=I:=by simpa using fk
  rw[kY,cU];exact⟨_,_,rfl,rfl,by decide⟩
 have kY:u.ar=I:=by simpa using fk
 have rR:v.ar=I:=by simpa using cU
 rw[if_neg (show ¬(u.er.ar=Gb∨v.er.ar=Gb)from fun h=>h.elim fk cU)]
 have f1:=BD (r:=r) (x:={ u with partner:=v.name }) b.U (vH h1)
 have f2:=BD (r:={ r with units:=En ((r.units.getD []).set k { u with partner:=v.name }) }) (k:=j) (x:={ v with partner:=u.name }) (by rw[Gd,G7];exact b.U) (by rw[Gd,G7];exact vH h4)
 have dQ:({ r with units:=En (((r.units.getD []).set k { u with partner:=v.name }).set j { v with partner:=u.name }) }:ak).er=ay (ay r.er k { u.er with partner:=v.er.name }) j { v.er with partner:=u.er.name }:=by
  simp only[ak.er,ay,Gd,Jk]
  rfl
 rw[show(⟨u.name,u.product,u.version,u.uses,u.results,v.name,I,u.ah⟩:bg)={ u with partner:=v.name } by rw[←kY],show(⟨v.name,v.product,v.version,v.uses,v.results,u.name,I,v.ah⟩:bg)={ v with partner:=u.name } by rw[←rR]]
 simp only[f1,f2]
 rw[kY,rR]at dQ ⊢
 simp only[cond_false]
 by_cases et:u.partner=[]
 case neg=>rw[if_pos (show u.er.partner≠[]∨v.er.partner≠[]from Or.inl et),decide_eq_false et];exact⟨_,_,rfl,rfl,by decide⟩
 by_cases mL:v.partner=[]
 case neg=>rw[if_pos (show u.er.partner≠[]∨v.er.partner≠[]from Or.inr mL),decide_eq_true et,decide_eq_false mL];exact⟨_,_,rfl,rfl,by decide⟩
 rw[if_neg (show ¬(u.er.partner≠[]∨v.er.partner≠[])from fun h=>h.elim (fun h=>h et) (fun h=>h mL)),decide_eq_true et,decide_eq_true mL]
 exact⟨_,_,rfl,rfl,dQ⟩
theorem Eu (b:GB r)(w:WF r.er){kk:List UInt8}(iw:kk=mI∨kk=nx∨kk=oQ∨kk=pO∨kk=iW∨kk=yU)(hk:e.kind=kk)(hc:zb e.er=0):gT (Ev r e) (apply (qe .i64) r.er e.er):=by
 rw[k9 hk (by rcases iw with rfl|rfl|rfl|rfl|rfl|rfl<;>decide) (by rcases iw with rfl|rfl|rfl|rfl|rfl|rfl<;>decide),if_neg (by rcases iw with rfl|rfl|rfl|rfl|rfl|rfl<;>decide)]
 obtain⟨n0,t,hn⟩:∃n0 t,e.names.getD []=n0::t:=by
  rcases iw with rfl|rfl|rfl|rfl|rfl|rfl
  ·obtain⟨a,c,h⟩:=gU (kh (c:=2) hk rfl hc).1;exact⟨_,_,h⟩
  ·obtain⟨a,c,h⟩:=gU (kh (c:=1) hk rfl hc).1;exact⟨_,_,h⟩
  ·obtain⟨a,c,h⟩:=gU (kh (c:=2) hk rfl hc).1;exact⟨_,_,h⟩
  ·obtain⟨a,h⟩:=jH (kh (c:=1) hk rfl hc).1;exact⟨_,_,h⟩
  ·obtain⟨a,h⟩:=jH (kh (c:=1) hk rfl hc).1;exact⟨_,_,h⟩
  ·obtain⟨a,h⟩:=jH (kh (c:=1) hk rfl hc).1;exact⟨_,_,h⟩
 cases hp:zu r.er n0 with
 |none=>
  unfold lX
  rw[fj hn,hp]
  unfold Ev
  simp only[gR hn,qa,LQ (jk b.U),zF,hp]
  exact⟨_,_,rfl,rfl,by decide⟩
 |some k=>
 obtain⟨u,h1,_,h3⟩:=rP hp
 obtain⟨D,v,o⟩:=Em b w h1
 rw[wR (fj hn) hp h3]
 unfold Ev
 simp only[gR hn,qa,LQ (jk b.U),zF,hp,Gi,Ge,cond_false,y8,q9 h1]
 rcases iw with rfl|rfl|rfl|rfl|rfl|rfl
 ·obtain⟨g1,g2⟩:=kh (a:=2) (c:=2) hk rfl hc
  obtain⟨a,c,jE⟩:=gU g1
  obtain⟨v0,v1,hv⟩:=gU g2
  rw[if_pos hk,show decide (e.kind=([117,115,101]:List UInt8))=Gb from decide_eq_true hk]
  obtain⟨r',cc,q1,q2⟩:=j6d b w hk hc jE hv h1
  simp only[cond_true,q1]
  exact⟨_,_,rfl,q2⟩
 ·obtain⟨g1,g2⟩:=kh (a:=2) (c:=1) hk rfl hc
  obtain⟨a,c,jE⟩:=gU g1
  rw[if_neg (show ¬e.kind=mI by rw[hk];decide),if_pos hk,show decide (e.kind=([117,115,101]:List UInt8))=I from decide_eq_false (by rw[hk];decide),show decide (e.kind=([112,97,105,114]:List UInt8))=Gb from decide_eq_true hk]
  obtain⟨r',cc,q1,q2⟩:=jwr b hk hc jE h1
  simp only[cond_true,cond_false,q1]
  exact⟨_,_,rfl,q2⟩
 ·obtain⟨g1,g2⟩:=kh (a:=2) (c:=2) hk rfl hc
  obtain⟨a,n1,jE⟩:=gU g1
  obtain⟨v0,v1,hv⟩:=gU g2
  rw[if_neg (show ¬e.kind=mI by rw[hk];decide),if_neg (show ¬e.kind=nx by rw[hk];decide),if_pos hk,show decide (e.kind=([117,115,101]:List UInt8))=I from decide_eq_false (by rw[hk];decide),show decide (e.kind=([112,97,105,114]:List UInt8))=I from decide_eq_false (by rw[hk];decide),show decide (e.kind=([109,101,97,115,117,114,101]:List UInt8))=Gb from decide_eq_true hk,lV jE,vE hv,o.El]
  simp only[cond_true,cond_false]
  by_cases hs:u.ar=Gb
  ·rw[hs];exact⟨_,_,rfl,rfl,by decide⟩
  have hJ:u.ar=I:=by simpa using hs
  have L:=Hp (D.aA.getD []) (zK r e (k:Int) u D) (fun i (c:Bool)=>(c,(i:Int))) (fun c y=>if c then Gb else eT n1 y) (fun c=>(c,((D.aA.getD []).length:Int))) I (fun c=>by unfold zK;simp only[zq];rfl)
   (fun i c y hy hi=>by
    unfold zK
    simp only[yc hi,cond_true,qa,q9 hy,gS jE]
    rw[ye (by have:=o.aA;unfold BB at this;omega)]
    cases c<;>rfl)
  rw[T7,Gq]at L
  have L':bu (zK r e (k:Int) u D) (I,0)=En ((D.aA.getD []).any (eT n1),((D.aA.getD []).length:Int)):=L
  rw[if_neg hs]
  simp only[T8 hJ,o.Bw,L',gS jE,gS hv,Bq (jk o.results)]
  rw[hJ,Ee (o:=En (u.results.getD [])) (by have:=mK o.results;simp only[Gd,Gh];omega) (by simp)]
  simp only[cond_false,Hd,show D.er.aA=D.aA.getD []from rfl]
  cases (D.aA.getD []).any (eT n1)with
  |false=>exact⟨_,_,rfl,rfl,by decide⟩
  |true=>
   have f16:=BD (r:=r) (x:={ u with results:=En (u.results.getD []++[⟨n1,u.version,v1⟩]) }) b.U (vH h1)
   have dQ:({ r with units:=En ((r.units.getD []).set k { u with results:=En (u.results.getD []++[⟨n1,u.version,v1⟩]) }) }:ak).er=ay r.er k { u.er with results:=u.results.getD []++[⟨n1,u.version,v1⟩] }:=by rw[zE rfl];rfl
   rw[hJ]at f16
   by_cases h2:64≤(u.results.getD []).length
   ·simp only[show decide (64≤((u.results.getD []).length:Int))=Gb from decide_eq_true (by omega),if_pos h2,Ge,Ga,if_false,cond_true]
    exact⟨_,_,rfl,rfl,by decide⟩
   ·simp only[show decide (64≤((u.results.getD []).length:Int))=I from decide_eq_false (by omega),if_neg h2,Ge,Ga,if_false,cond_true,cond_false,Gd,f16]
    rw[hJ]at dQ
    exact⟨_,_,rfl,rfl,dQ⟩
 ·rw[if_neg (show ¬e.kind=mI by rw[hk];decide),if_neg (show ¬e.kind=nx by rw[hk];decide),if_neg (show ¬e.kind=oQ by rw[hk];decide),if_pos hk,show decide (e.kind=([117,115,101]:List UInt8))=I from decide_eq_false (by rw[hk];decide),show decide (e.kind=([112,97,105,114]:List UInt8))=I from decide_eq_false (by rw[hk];decide),show decide (e.kind=([109,101,97,115,117,114,101]:List UInt8))=I from decide_eq_false (by rw[hk];decide),show decide (e.kind=([117,112,100,97,116,101]:List UInt8))=Gb from decide_eq_true hk,o.new]
  simp only[cond_true,cond_false]
  by_cases hs:u.ar=Gb
  ·rw[hs];exact⟨_,_,rfl,rfl,by decide⟩
  have hJ:u.ar=I:=by simpa using hs
  rw[if_neg hs]
  have f16:=BD (r:=r) (x:={ u with version:=v }) b.U (vH h1)
  have dQ:({ r with units:=En ((r.units.getD []).set k { u with version:=v }) }:ak).er=ay r.er k { u.er with version:=v }:=by rw[zE rfl];rfl
  rw[hJ]at f16 dQ
  simp only[T8 hJ,(LS (jk b.P) o.new).2,f16]
  rw[hJ]
  simp only[cond_false]
  by_cases h:u.version=v
  ·rw[decide_eq_true h,if_pos h];exact⟨_,_,rfl,rfl,by decide⟩
  ·rw[decide_eq_false h,if_neg h];exact⟨_,_,rfl,rfl,dQ⟩
 ·rw[if_neg (show ¬e.kind=mI by rw[hk];decide),if_neg (show ¬e.kind=nx by rw[hk];decide),if_neg (show ¬e.kind=oQ by rw[hk];decide),if_neg (show ¬e.kind=pO by rw[hk];decide),if_pos hk,show decide (e.kind=([117,115,101]:List UInt8))=I from decide_eq_false (by rw[hk];decide),show decide (e.kind=([112,97,105,114]:List UInt8))=I from decide_eq_false (by rw[hk];decide),show decide (e.kind=([109,101,97,115,117,114,101]:List UInt8))=I from decide_eq_false (by rw[hk];decide),show decide (e.kind=([117,112,100,97,116,101]:List UInt8))=I from decide_eq_false (by rw[hk];decide),show decide (e.kind=([115,104,105,112]:List UInt8))=Gb from decide_eq_true hk]
  have g2:=jpv (jk b.P) o.new (jk b.L) (jk o.uses) o.au o.Bw o.El (jk o.aB) (jk o.results) (jk o.aA)
  have f16:=BD (r:=r) (x:={ u with ar:=Gb }) b.U (vH h1)
  simp only[cond_true,cond_false,g2,f16]
  by_cases h:vD (qe .i64) r.er u.er=0
  ·rw[decide_eq_true h,if_neg (fun hh=>hh h)];exact⟨_,_,rfl,rfl,zE rfl⟩
  ·rw[decide_eq_false h,if_pos h];exact⟨_,_,rfl,rfl,h⟩
 ·rw[if_neg (show ¬e.kind=mI by rw[hk];decide),if_neg (show ¬e.kind=nx by rw[hk];decide),if_neg (show ¬e.kind=oQ by rw[hk];decide),if_neg (show ¬e.kind=pO by rw[hk];decide),if_neg (show ¬e.kind=iW by rw[hk];decide),show decide (e.kind=([117,115,101]:List UInt8))=I from decide_eq_false (by rw[hk];decide),show decide (e.kind=([112,97,105,114]:List UInt8))=I from decide_eq_false (by rw[hk];decide),show decide (e.kind=([109,101,97,115,117,114,101]:List UInt8))=I from decide_eq_false (by rw[hk];decide),show decide (e.kind=([117,112,100,97,116,101]:List UInt8))=I from decide_eq_false (by rw[hk];decide),show decide (e.kind=([115,104,105,112]:List UInt8))=I from decide_eq_false (by rw[hk];decide)]
  have f16:=BD (r:=r) (x:={ u with ah:=qe .i64 (u.ah+1) }) b.U (vH h1)
  have dQ:({ r with units:=En ((r.units.getD []).set k { u with ah:=qe .i64 (u.ah+1) }) }:ak).er=ay r.er k { u.er with ah:=qe .i64 (u.ah+1) }:=by rw[zE rfl];rfl
  simp only[cond_false]
  by_cases hs:u.ar=Gb
  ·rw[hs]at f16 dQ ⊢
   simp only[f16]
   exact⟨_,_,rfl,rfl,dQ⟩
  ·have hJ:u.ar=I:=by simpa using hs
   rw[hJ]
   exact⟨_,_,rfl,rfl,by decide⟩
end Go.Z
namespace Go.Z
open Go Go.Abs Go.W
variable {r:ak}{e:GEv}
def zkn (v0:Int):pS→pS
 | .error k=>.error k
 | .ok s=>.ok { s with day:=v0 }
theorem oy {v0 x y}(h:gT x y):gT (qa x fun v=>En (⟨v0,v.1.au,v.1.ae,v.1.units⟩,v.2)) (zkn v0 y):=by
 obtain⟨r',c,rfl,h2⟩:=h
 cases y with
 |error k=>exact⟨_,_,rfl,h2⟩
 |ok s=>exact⟨_,_,rfl,h2.1,by rw[←h2.2];rfl⟩
theorem jo4 (b:GB r)(w:WF r.er)(hc:zb e.er=0)(hu:e.kind≠iX)(gi:∀v∈e.values.getD [],0≤v):gT (Il r e) (after (qe .i64) r.er e.er):=by
 obtain⟨_,f,h1,hH,oH⟩:=Ij hc
 have hm:(e.kind,f.1,f.2)∈cP:=by
  unfold yt at h1
  cases hf:cP.find? (fun x=>decide (x.1=e.er.kind))with
  |none=>rw[hf]at h1;cases h1
  |some x=>
   rw[hf]at h1
   have h2:=List.find?_some hf
   have h3:=List.mem_of_find?_eq_some hf
   have h4:x.1=e.kind:=of_decide_eq_true h2
   have h5:x.2=f:=by simpa using h1
   rw[←h4,←h5];exact h3
 have gN:∃v0 t,e.values.getD []=v0::t:=by
  have:(e.values.getD []).length=f.2:=oH
  cases hv:e.values.getD []with
  |cons v t=>exact⟨v,t,rfl⟩
  |nil=>
   rw[hv]at this
   simp only[cP,Ig,Prod.mk.injEq,Hc,or_false]at hm
   simp only[List.length_nil]at this
   rcases hm with h|h|h|h|h|h|h|h|h|h|h|h|h|h|h<;>first|(exfalso;omega)|exact absurd h.1 hu
 obtain⟨v0,t,hv⟩:=gN
 unfold Il after
 rw[gR hv,TN hv]
 simp only[qa]
 by_cases hd:v0<r.day
 ·rw[decide_eq_true hd,if_pos (show v0<r.er.day from hd)]
  exact⟨_,_,rfl,rfl,by decide⟩
 rw[decide_eq_false hd,if_neg (show ¬v0<r.er.day from hd)]
 have rS:e.kind∈cP.map (·.1):=Ha (f:=(·.1)) hm
 simp only[cP,Hb,Ix,Ig,List.mem_singleton,Hc,or_false]at rS
 have nk:∀ {k k':List UInt8},e.kind=k→decide (k=k')=I→decide (e.kind=k')=I:=by
  intro k k' h h2;rw[h];exact h2
 have yk:∀ {k:List UInt8},e.kind=k→decide (e.kind=k)=Gb:=fun h=>decide_eq_true h
 simp only[cond_false]
 rcases rS with h|h|h|h|h|h|h|h|h|h|h|h|h|h|h
 ·have q:=oy (v0:=v0) (j7x b h hc)
  rw[show decide (e.kind=([108,111,116]:List UInt8))=Gb from yk h]
  exact q
 ·have q:=oy (v0:=v0) (jec b h hc)
  rw[show decide (e.kind=([108,111,116]:List UInt8))=I from nk h rfl,show decide (e.kind=([112,114,111,100,117,99,116]:List UInt8))=Gb from yk h]
  exact q
 ·have q:=oy (v0:=v0) (T2 b w (.inl rfl) h hc gi)
  rw[show decide (e.kind=([108,111,116]:List UInt8))=I from nk h rfl,show decide (e.kind=([112,114,111,100,117,99,116]:List UInt8))=I from nk h rfl,show decide (e.kind=([98,117,105,108,100]:List UInt8))=I from nk h rfl,show decide (e.kind=([110,101,101,100]:List UInt8))=Gb from yk h]
  exact q
 ·have q:=oy (v0:=v0) (T2 b w (.inr (.inl rfl)) h hc gi)
  rw[show decide (e.kind=([108,111,116]:List UInt8))=I from nk h rfl,show decide (e.kind=([112,114,111,100,117,99,116]:List UInt8))=I from nk h rfl,show decide (e.kind=([98,117,105,108,100]:List UInt8))=I from nk h rfl,show decide (e.kind=([110,101,101,100]:List UInt8))=I from nk h rfl,show decide (e.kind=([116,101,115,116]:List UInt8))=Gb from yk h]
  exact q
 ·have q:=oy (v0:=v0) (T2 b w (.inr (.inr rfl)) h hc gi)
  rw[show decide (e.kind=([108,111,116]:List UInt8))=I from nk h rfl,show decide (e.kind=([112,114,111,100,117,99,116]:List UInt8))=I from nk h rfl,show decide (e.kind=([98,117,105,108,100]:List UInt8))=I from nk h rfl,show decide (e.kind=([110,101,101,100]:List UInt8))=I from nk h rfl,show decide (e.kind=([116,101,115,116]:List UInt8))=I from nk h rfl,show decide (e.kind=([105,115,115,117,101]:List UInt8))=Gb from yk h]
  exact q
 ·have q:=oy (v0:=v0) (jpr b h hc)
  rw[show decide (e.kind=([108,111,116]:List UInt8))=I from nk h rfl,show decide (e.kind=([112,114,111,100,117,99,116]:List UInt8))=I from nk h rfl,show decide (e.kind=([98,117,105,108,100]:List UInt8))=Gb from yk h]
  exact q
 all_goals try rw[show decide (e.kind=([108,111,116]:List UInt8))=I from nk h rfl,show decide (e.kind=([112,114,111,100,117,99,116]:List UInt8))=I from nk h rfl,show decide (e.kind=([98,117,105,108,100]:List UInt8))=I from nk h rfl,show decide (e.kind=([110,101,101,100]:List UInt8))=I from nk h rfl,show decide (e.kind=([116,101,115,116]:List UInt8))=I from nk h rfl,show decide (e.kind=([105,115,115,117,101]:List UInt8))=I from nk h rfl]
 ·rw[show decide (e.kind=([104,111,108,100]:List UInt8))=I from nk h rfl,show decide (e.kind=([102,114,101,101]:List UInt8))=I from nk h rfl]
  exact oy (v0:=v0) (Eu b w (by simp) h hc)
 ·rw[show decide (e.kind=([104,111,108,100]:List UInt8))=I from nk h rfl,show decide (e.kind=([102,114,101,101]:List UInt8))=I from nk h rfl]
  exact oy (v0:=v0) (Eu b w (by simp) h hc)
 ·rw[show decide (e.kind=([104,111,108,100]:List UInt8))=I from nk h rfl,show decide (e.kind=([102,114,101,101]:List UInt8))=I from nk h rfl]
  exact oy (v0:=v0) (Eu b w (by simp) h hc)
 ·rw[show decide (e.kind=([104,111,108,100]:List UInt8))=I from nk h rfl,show decide (e.kind=([102,114,101,101]:List UInt8))=I from nk h rfl]
  exact oy (v0:=v0) (Eu b w (by simp) h hc)
 ·rw[show decide (e.kind=([104,111,108,100]:List UInt8))=Gb from yk h]
  exact oy (v0:=v0) (jdv b Gb h hc)
 ·rw[show decide (e.kind=([104,111,108,100]:List UInt8))=I from nk h rfl,show decide (e.kind=([102,114,101,101]:List UInt8))=Gb from yk h]
  exact oy (v0:=v0) (jdv b I h hc)
 ·rw[show decide (e.kind=([104,111,108,100]:List UInt8))=I from nk h rfl,show decide (e.kind=([102,114,101,101]:List UInt8))=I from nk h rfl]
  exact oy (v0:=v0) (Eu b w (by simp) h hc)
 ·rw[show decide (e.kind=([104,111,108,100]:List UInt8))=I from nk h rfl,show decide (e.kind=([102,114,101,101]:List UInt8))=I from nk h rfl]
  exact oy (v0:=v0) (Eu b w (by simp) h hc)
 ·exact absurd h hu
end Go.Z
namespace Go.Z
open Go Go.Abs Go.W
def Io (s:List UInt8):Bool:=decide (s≠[])&&decide (s.length≤24)&&vI 0 s
theorem qpf {s:List UInt8}{i c}(hc:s[i]?=En c):vI i (s.drop i)=(oV i c.toNat&&vI (i+1) (s.drop (i+1))):=by
 rw[rL hc];rfl
theorem jvt {s:List UInt8}:f90 s=En (Io s):=by
 unfold f90 Io
 by_cases h0:s=[]
 ·subst h0;rfl
 have hl:¬((s.length:Int)=0):=by
  intro h
  exact h0 (List.eq_nil_of_length_eq_zero (by omega))
 by_cases h1:(24:Int)<s.length
 ·have h2:¬s.length≤24:=by omega
  simp[hl,h0,h1,h2]
 ·have h2:s.length≤24:=by omega
  obtain⟨d,g1,g2⟩:=Hg s.length (fun i=>(i:Int)) (zL s) (fun d=>match d with | .inl _=>I | .inr _=>Gb) (fun i=>vI i (s.drop i)) ⟨.inr _,by unfold zL;rw[zq];rfl,by rw[G8 (Nat.le_refl _)];rfl⟩ (fun i hi=>by
   obtain⟨c,hc⟩:∃c,s[i]?=En c:=⟨_,Gx hi⟩
   unfold zL
   rw[qpf hc,yc hi,cond_true,q9 hc,T9]
   simp only[je3 hi (show s.length≤9223372036854775807 by omega)]
   unfold oV
   have hx:0≤(c.toNat:Int):=by omega
   generalize (c.toNat:Int)=x at hx ⊢
   by_cases z:i=0
   ·subst z
    rcases kinds x with h|h|h|h|h|h|h|h|h <;>
     simp (disch:=omega) only[decide_eq_true,decide_eq_false,cond_true,cond_false,Gs,Gq,Gz,Gt,Gr,Gn] <;>
     first
      |exact .inl ⟨trivial,trivial⟩
      |exact .inl ⟨rfl,trivial⟩
      |exact .inl ⟨rfl,rfl⟩
      |exact .inr ⟨_,rfl,rfl⟩
   ·rcases kinds x with h|h|h|h|h|h|h|h|h <;>
     simp (disch:=omega) only[decide_eq_true,decide_eq_false,cond_true,cond_false,Gs,Jp,Gq,Gz,Gt,Gr,Gn] <;>
     first
      |exact .inl ⟨trivial,trivial⟩
      |exact .inl ⟨rfl,trivial⟩
      |exact .inl ⟨rfl,rfl⟩
      |exact .inr ⟨_,rfl,rfl⟩)
  have g1:bu (zL s) 0=En d:=g1
  rw[decide_eq_false hl,cond_false,decide_eq_false h1,cond_false,g1,T9]
  simp only[h0,h2,ne_eq,not_false_eq_true,decide_true,Gr]
  rw[If]at g2
  rw[←g2]
  cases d<;>rfl
theorem qw0 {s i c}(hc:s[i]?=En c):(c.toNat<128∧qn s i=(c.toNat,1))∨(128≤c.toNat∧128≤(qn s i).1):=by
 by_cases h:c.toNat<128
 ·exact .inl ⟨h,jev hc h⟩
 ·exact .inr ⟨by omega,jc1 hc h⟩
theorem qz3 {i x}(h:128≤x):oV i x=I:=by
 unfold oV
 simp (disch:=omega) only[decide_eq_false,Bool.or_self,G9]
def zj1:Nat→Option Nat
 |0=>none
 |i+1=>En (i+1)
theorem jsu {s:List UInt8}:f81 s=En (Io s):=by
 unfold f81
 obtain⟨d,g1,g2⟩:=Hg s.length zj1 (Ip s) (fun d=>match d with | .inl _=>I | .inr _=>Gb) (fun i=>vI i (s.drop i)) (by
   rw[G8 (Nat.le_refl _)]
   cases hn:s.length with
   |zero=>
    refine⟨.inr 0,?_,rfl⟩
    show zM s=_
    unfold zM
    rw[hn];rfl
   |succ n=>
    refine⟨.inr (n+1),?_,rfl⟩
    show zN s (n+1)=_
    unfold zN
    rw[hn,decide_eq_false (by omega)];rfl) (fun i hi=>by
   obtain⟨c,hc⟩:∃c,s[i]?=En c:=⟨_,Gx hi⟩
   rw[qpf hc]
   cases i with
   |zero=>
    show(zM s=_∧_)∨(∃d,zM s=_∧_)
    unfold zM
    rw[decide_eq_true hi,cond_true]
    rcases qw0 hc with⟨bw,he⟩|⟨uZ,hr⟩
    ·rw[he]
     simp only[]
     have hx:0≤(c.toNat:Int):=by omega
     unfold oV
     generalize (c.toNat:Int)=x at hx ⊢
     rcases kinds x with h|h|h|h|h|h|h|h|h <;>
      simp (disch:=omega) only[decide_eq_true,decide_eq_false,cond_true,cond_false,Gs,Gq,Gz,Gt,Gr,Gn] <;>
      first
       |exact .inl ⟨trivial,trivial⟩
       |exact .inl ⟨rfl,trivial⟩
       |exact .inl ⟨rfl,rfl⟩
       |exact .inr ⟨_,rfl,rfl⟩
    ·rw[qz3 (by omega)]
     generalize hd:qn s 0=dd at hr ⊢
     have iH:(128:Int)≤(dd.1:Int):=by omega
     generalize (dd.1:Int)=x at iH ⊢
     simp (disch:=omega) only[decide_eq_true,decide_eq_false,cond_true,cond_false,Gn]
     exact .inr ⟨_,rfl,rfl⟩
   |succ i=>
    show(zN s (i+1)=_∧_)∨(∃d,zN s (i+1)=_∧_)
    unfold zN
    rw[decide_eq_true hi,cond_true]
    rcases qw0 hc with⟨bw,he⟩|⟨uZ,hr⟩
    ·rw[he]
     simp only[]
     have hx:0≤(c.toNat:Int):=by omega
     unfold oV
     generalize (c.toNat:Int)=x at hx ⊢
     have e0:decide (((i+1:Nat):Int)=0)=I:=decide_eq_false (by omega)
     rcases kinds x with h|h|h|h|h|h|h|h|h <;>
      simp (disch:=omega) only[e0,decide_eq_true,decide_eq_false,cond_true,cond_false,Gs,Jp,Gq,Gz,Gt,Gr,Gn] <;>
      first
       |exact .inl ⟨trivial,trivial⟩
       |exact .inl ⟨rfl,trivial⟩
       |exact .inl ⟨rfl,rfl⟩
       |exact .inr ⟨_,rfl,rfl⟩
    ·rw[qz3 (by omega)]
     generalize hd:qn s (i+1)=dd at hr ⊢
     have iH:(128:Int)≤(dd.1:Int):=by omega
     have e0:decide (((i+1:Nat):Int)=0)=I:=decide_eq_false (by omega)
     generalize (dd.1:Int)=x at iH ⊢
     simp (disch:=omega) only[e0,decide_eq_true,decide_eq_false,cond_true,cond_false,Gn]
     exact .inr ⟨_,rfl,rfl⟩)
 have g1:bu (Ip s) none=En d:=g1
 rw[g1,T9]
 unfold Io
 rw[If]at g2
 cases d with
 |inl d=>simp only[]at g2;rw[←g2];simp
 |inr d=>
  simp only[]at g2
  rw[←g2]
  by_cases h0:s=[]
  ·subst h0;rfl
  ·have e:decide ((s.length:Int)≤24)=decide (s.length≤24):=by by_cases h:s.length≤24<;>simp[h]<;>omega
   rw[e]
   simp[h0]
theorem q7p {c}:oV 0 (c.toNat:Int)=vJ c:=by
 unfold oV vJ
 have h:∀a b:Nat,(decide ((a:Int)≤(c.toNat:Int)∧(c.toNat:Int)≤(b:Int)))=(decide (a≤c.toNat)&&decide (c.toNat≤b)):=by
  intro a b
  by_cases h1:a≤c.toNat<;>by_cases h2:c.toNat≤b<;>simp[h1,h2]<;>omega
 rw[show(65:Int)=((65:Nat):Int)from rfl,show(90:Int)=((90:Nat):Int)from rfl,show(97:Int)=((97:Nat):Int)from rfl,show(122:Int)=((122:Nat):Int)from rfl,h,h]
 simp
theorem js6 {c i}:oV (i+1) (c.toNat:Int)=(vJ c||Ew c):=by
 rw[←q7p]
 unfold oV Ew
 have h:(decide ((48:Int)≤(c.toNat:Int)∧(c.toNat:Int)≤(57:Int)))=(decide (48≤c.toNat)&&decide (c.toNat≤57)):=by
  by_cases h1:48≤c.toNat<;>by_cases h2:c.toNat≤57<;>simp[h1,h2]<;>omega
 have h3:decide ((c.toNat:Int)=95)=decide (c.toNat=95):=by
  by_cases h1:c.toNat=95
  ·rw[decide_eq_true h1];exact decide_eq_true (by omega)
  ·rw[decide_eq_false h1];exact decide_eq_false (by omega)
 rw[h,h3]
 simp
theorem q6a:∀ (s:List UInt8) (i:Nat),vI (i+1) s=s.all fun c=>vJ c||Ew c
 | [],_=>rfl
 |c::s,i=>by
  show(oV (i+1) c.toNat&&vI (i+1+1) s)=_
  rw[js6,q6a s (i+1)];rfl
theorem qt0 {s}:Io s=Go.W.dr s:=by
 cases s with
 |nil=>rfl
 |cons c t=>
  show(decide (c::t≠[])&&decide ((c::t).length≤24)&&(oV 0 c.toNat&&vI 1 t))=(vJ c&&t.all (fun c=>vJ c||Ew c)&&decide ((c::t).length≤24))
  rw[q7p,q6a t 0,show decide (c::t≠[])=Gb from decide_eq_true (by simp)]
  cases vJ c<;>cases t.all (fun c=>vJ c||Ew c)<;>cases decide ((c::t).length≤24)<;>rfl
variable {e:GEv}
theorem jp3 {s}:Ey s=En (if Go.W.dr s then 0 else 8):=by
 unfold Ey
 rw[jsu,qt0]
 simp only[qa,lT]
 cases Go.W.dr s<;>rfl
theorem Ua {α:Type}{p c}(hc:c≠0):∀l:List α,gB (l.map fun x=>if p x then 0 else c)=if l.all p then 0 else c
 | []=>rfl
 |x::l=>by
  rw[Hb,List.all_cons]
  cases p x with
  |true=>simp only[if_true,gB,Gr];exact Ua hc l
  |false=>simp[gB,hc]
theorem q7v {o}(hl:(o.getD []).length≤SM):f46 o=En (gB (o.getD [])):=by
 cases o with
 |none=>exact iY (l:=[]) (Nat.zero_le _)
 |some l=>exact iY hl
theorem jo9 {o}(hl:(o.getD []).length≤SM):∃w,Iq o=En (jy ((o.getD []).map fun s=>if Go.W.dr s then 0 else 8),w):=by
 unfold Iq
 rw[TG (f:=Ir o) (l:=o.getD []) (g:=fun s=>if Go.W.dr s then(0:Int)else 8) (q:=Ey) hl (fun x _=>jp3) (fun s=>rfl)]
 exact⟨_,rfl⟩
def rT (n:Int):Bool:=decide (0≤n)&&decide (n≤999999999)
theorem jpg {n}:Ez n=En (if rT n then 0 else 3):=by
 unfold Ez
 rw[Eh]
 simp only[qa]
 unfold rT
 by_cases h1:n<0
 ·rw[if_pos (Or.inl h1),decide_eq_false (by omega)];rfl
 ·by_cases h2:999999999<n
  ·rw[if_pos (Or.inr h2),decide_eq_true (by omega),decide_eq_false (by omega)];rfl
  ·rw[if_neg (by omega),decide_eq_true (by omega),decide_eq_true (by omega)];rfl
theorem jp0 {o}(hl:(o.getD []).length≤SM):∃w,Iu o=En (jy ((o.getD []).map fun s=>if rT s then 0 else 3),w):=by
 unfold Iu
 rw[TG (f:=Iw o) (l:=o.getD []) (g:=fun s=>if rT s then(0:Int)else 3) (q:=Ez) hl (fun x _=>jpg) (fun s=>rfl)]
 exact⟨_,rfl⟩
theorem q8v:∀ (k:List UInt8),oR k=none∧yt k=none∨∃f,oR k=En f∧yt k=En (f.2.1.length,f.2.2.1.toNat)∧0≤f.2.2.1:=by
 intro k
 unfold oR yt iV cP
 simp only[He,List.find?_nil,eq_comm (a:=k)]
 by_cases h1:mF=k
 ·simp[h1]
 by_cases h2:nv=k
 ·simp[h1,h2]
 by_cases h3:mG=k
 ·simp[h1,h2,h3]
 by_cases h4:nw=k
 ·simp[h1,h2,h3,h4]
 by_cases h5:pN=k
 ·simp[h1,h2,h3,h4,h5]
 by_cases h6:mH=k
 ·simp[h1,h2,h3,h4,h5,h6]
 by_cases h7:mI=k
 ·simp[h1,h2,h3,h4,h5,h6,h7]
 by_cases h8:oQ=k
 ·simp[h1,h2,h3,h4,h5,h6,h7,h8]
 by_cases h9:pO=k
 ·simp[h1,h2,h3,h4,h5,h6,h7,h8,h9]
 by_cases lZ:nx=k
 ·simp[h1,h2,h3,h4,h5,h6,h7,h8,h9,lZ]
 by_cases oz:oi=k
 ·simp[h1,h2,h3,h4,h5,h6,h7,h8,h9,lZ,oz]
 by_cases l3:rM=k
 ·simp[h1,h2,h3,h4,h5,h6,h7,h8,h9,lZ,oz,l3]
 by_cases vK:iW=k
 ·simp[h1,h2,h3,h4,h5,h6,h7,h8,h9,lZ,oz,l3,vK]
 by_cases oW:yU=k
 ·simp[h1,h2,h3,h4,h5,h6,h7,h8,h9,lZ,oz,l3,vK,oW]
 by_cases vL:iX=k
 ·simp[h1,h2,h3,h4,h5,h6,h7,h8,h9,lZ,oz,l3,vK,oW,vL]
 ·simp[h1,h2,h3,h4,h5,h6,h7,h8,h9,lZ,oz,l3,vK,oW,vL]
theorem jrp (h1:(e.names.getD []).length≤SM)(h2:(e.values.getD []).length≤SM):f47 e=En (zb e.er):=by
 obtain⟨w1,g1⟩:=jo9 h1
 obtain⟨w2,g2⟩:=jp0 h2
 have q1:f46 (jy ((e.names.getD []).map fun s=>if Go.W.dr s then(0:Int)else 8))=En (if(e.names.getD []).all Go.W.dr then 0 else 8):=by
  rw[q7v (by rw[zt,Gm];exact h1),zt,Ua (by decide)]
 have q2:f46 (jy ((e.values.getD []).map fun s=>if rT s then(0:Int)else 3))=En (if(e.values.getD []).all rT then 0 else 3):=by
  rw[q7v (by rw[zt,Gm];exact h2),zt,Ua (by decide)]
 unfold f47
 simp only[Eh,lT,qa,g1,g2,q1,q2]
 rw[iY (by simp[SM])]
 simp only[]
 rw[iY (by simp[SM])]
 unfold zb
 rw[show e.er.number=e.number from rfl,show e.er.kind=e.kind from rfl,show e.er.names=e.names.getD []from rfl,show e.er.values=e.values.getD []from rfl,show e.er.text=e.text from rfl,show(fun n=>decide (0≤n)&&decide (n≤999999999))=rT from rfl]
 by_cases c1:e.number<1∨1000<e.number
 ·rw[if_pos c1,if_pos c1];rfl
 rw[if_neg c1,if_neg c1]
 rcases q8v e.kind with⟨c2,cT⟩|⟨f,c2,cT,fk⟩
 ·rw[cT]
  simp only[D5,j8,ny,c2]
  simp[gB]
 rw[cT]
 simp only[D5,j8,ny,c2,Gi,Ge,Ga,if_false]
 by_cases cU:(e.names.getD []).length≠f.2.1.length∨(e.values.getD []).length≠f.2.2.1.toNat
 ·have:(!(decide (((e.names.getD []).length:Int)=(f.2.1.length:Int))&&decide (((e.values.getD []).length:Int)=f.2.2.1)))=Gb:=by
   rcases cU with cU|cU
   ·rw[decide_eq_false (by omega)];rfl
   ·rw[decide_eq_false (p:=((e.values.getD []).length:Int)=f.2.2.1) (by omega),G9];rfl
  rw[this,if_pos cU]
  rfl
 ·have:(!(decide (((e.names.getD []).length:Int)=(f.2.1.length:Int))&&decide (((e.values.getD []).length:Int)=f.2.2.1)))=I:=by
   rw[decide_eq_true (by omega),decide_eq_true (p:=((e.values.getD []).length:Int)=f.2.2.1) (by omega)];rfl
  rw[this,if_neg cU]
  simp only[gB,Ga,if_false,if_true,decide_true,cond_true]
  cases (e.names.getD []).all Go.W.dr<;>cases (e.values.getD []).all rT<;>by_cases et:e.text=[]<;>simp[et]
end Go.Z
namespace Go.Z
open Go Go.Abs Go.W
variable {e:GEv}
theorem jws:∀ (k:List UInt8),(f89 k=En ⟨0,0,I⟩∧yt k=none)∨∃a b:Nat,f89 k=En ⟨(a:Int),(b:Int),Gb⟩∧yt k=En (a,b):=by
 intro k
 by_cases h1:k=mF
 ·subst h1;exact .inr ⟨2,2,rfl,rfl⟩
 by_cases h2:k=nv
 ·subst h2;exact .inr ⟨1,1,rfl,rfl⟩
 by_cases h3:k=pN
 ·subst h3;exact .inr ⟨1,1,rfl,rfl⟩
 by_cases h4:k=pO
 ·subst h4;exact .inr ⟨1,1,rfl,rfl⟩
 by_cases h5:k=oi
 ·subst h5;exact .inr ⟨1,1,rfl,rfl⟩
 by_cases h6:k=rM
 ·subst h6;exact .inr ⟨1,1,rfl,rfl⟩
 by_cases h7:k=iW
 ·subst h7;exact .inr ⟨1,1,rfl,rfl⟩
 by_cases h8:k=yU
 ·subst h8;exact .inr ⟨1,1,rfl,rfl⟩
 by_cases h9:k=mG
 ·subst h9;exact .inr ⟨2,2,rfl,rfl⟩
 by_cases lZ:k=mI
 ·subst lZ;exact .inr ⟨2,2,rfl,rfl⟩
 by_cases oz:k=oQ
 ·subst oz;exact .inr ⟨2,2,rfl,rfl⟩
 by_cases l3:k=nw
 ·subst l3;exact .inr ⟨2,3,rfl,rfl⟩
 by_cases vK:k=mH
 ·subst vK;exact .inr ⟨2,1,rfl,rfl⟩
 by_cases oW:k=nx
 ·subst oW;exact .inr ⟨2,1,rfl,rfl⟩
 by_cases vL:k=iX
 ·subst vL;exact .inr ⟨0,0,rfl,rfl⟩
 refine .inl ⟨?_,?_⟩
 ·unfold f89
  simp only[decide_eq_false (p:=k=([108,111,116]:List UInt8)) h1,decide_eq_false (p:=k=([112,114,111,100,117,99,116]:List UInt8)) h2,decide_eq_false (p:=k=([105,115,115,117,101]:List UInt8)) h3,decide_eq_false (p:=k=([117,112,100,97,116,101]:List UInt8)) h4,decide_eq_false (p:=k=([104,111,108,100]:List UInt8)) h5,decide_eq_false (p:=k=([102,114,101,101]:List UInt8)) h6,decide_eq_false (p:=k=([115,104,105,112]:List UInt8)) h7,decide_eq_false (p:=k=([99,111,109,112,108,97,105,110]:List UInt8)) h8,decide_eq_false (p:=k=([110,101,101,100]:List UInt8)) h9,decide_eq_false (p:=k=([117,115,101]:List UInt8)) lZ,decide_eq_false (p:=k=([109,101,97,115,117,114,101]:List UInt8)) oz,decide_eq_false (p:=k=([116,101,115,116]:List UInt8)) l3,decide_eq_false (p:=k=([98,117,105,108,100]:List UInt8)) vK,decide_eq_false (p:=k=([112,97,105,114]:List UInt8)) oW,decide_eq_false (p:=k=([117,110,100,111]:List UInt8)) vL,cond_false]
 ·unfold yt cP
  simp[He,Gj h1,Gj h2,Gj h3,Gj h4,Gj h5,Gj h6,Gj h7,Gj h8,Gj h9,Gj lZ,Gj oz,Gj l3,Gj vK,Gj oW,Gj vL]
theorem jok {s}:f90 s=En (Go.W.dr s):=by rw[jvt,qt0]
theorem q5l {α:Type}{l:List α}{p:α→Bool}{f:Int→Option (Int⊕(Unit⊕Int))}{n}(hn:n=(l.length:Int))(hl:l.length≤SM)
  (dq:f n=En (.inr (.inr n))) (hf:∀(i:Nat) x,l[i]?=En x→i<l.length→f (i:Int)=En (if p x then .inl (qe .i64 ((i:Int)+1))else .inr (.inl ()))):
  ∃d,bu f 0=En d∧(match d with | .inl _=>I | .inr _=>Gb)=l.all p:=by
 subst hn
 obtain⟨d,h1,h2⟩:=Tx l f p (fun d=>match d with | .inl _=>I | .inr _=>Gb) ⟨_,dq,rfl⟩ (fun i x hx hi=>by
  have h3:=hf i x hx hi
  cases hp:p x with
  |true=>rw[hp,ye (by unfold SM at hl;omega)]at h3;exact .inl ⟨rfl,h3⟩
  |false=>rw[hp]at h3;exact .inr ⟨rfl,_,h3,rfl⟩)
 exact⟨d,h1,h2⟩
theorem ju3 (h1:(e.names.getD []).length≤SM)(h2:(e.values.getD []).length≤SM):f33 e=En (zb e.er):=by
 unfold f33 zb
 rw[T1]
 simp only[qa]
 rw[show e.er.number=e.number from rfl,show e.er.kind=e.kind from rfl,show e.er.names=e.names.getD []from rfl,show e.er.values=e.values.getD []from rfl,show e.er.text=e.text from rfl,show(fun n=>decide (0≤n)&&decide (n≤999999999))=rT from rfl]
 by_cases c1:e.number<1∨1000<e.number
 ·rw[decide_eq_true c1,if_pos c1];rfl
 rw[decide_eq_false c1,if_neg c1]
 simp only[cond_false]
 rcases jws e.kind with⟨c2,cT⟩|⟨a,b,c2,cT⟩
 ·rw[c2,cT];rfl
 rw[c2,cT]
 simp only[cond_true]
 by_cases cU:(e.names.getD []).length=a
 case neg=>rw[decide_eq_false (by omega),if_pos (.inl cU)];rfl
 by_cases et:(e.values.getD []).length=b
 case neg=>rw[decide_eq_true (by omega),decide_eq_false (p:=((e.values.getD []).length:Int)=(b:Int)) (by omega),if_pos (.inr et)];rfl
 rw[decide_eq_true (by omega),decide_eq_true (p:=((e.values.getD []).length:Int)=(b:Int)) (by omega),if_neg (by omega)]
 simp only[cond_true]
 obtain⟨d,g1,g2⟩:=q5l (l:=e.names.getD []) (p:=Go.W.dr) (f:=BE e ⟨(a:Int),(b:Int),Gb⟩) (n:=(a:Int)) (by omega) h1 (by unfold BE;simp only[zq];rfl) (fun i x hx hi=>by
  unfold BE
  simp only[show decide ((i:Int)<(a:Int))=Gb from decide_eq_true (by omega),cond_true,qa,q9 hx,jok]
  cases Go.W.dr x<;>rfl)
 obtain⟨d2,g3,g4⟩:=q5l (l:=e.values.getD []) (p:=rT) (f:=BF e ⟨(a:Int),(b:Int),Gb⟩) (n:=(b:Int)) (by omega) h2 (by unfold BF;simp only[zq];rfl) (fun i x hx hi=>by
  unfold BF
  simp only[show decide ((i:Int)<(b:Int))=Gb from decide_eq_true (by omega),cond_true,qa,q9 hx,T1]
  unfold rT
  by_cases k1:x<0
  ·rw[decide_eq_true (Or.inl k1),decide_eq_false (p:=0≤x) (by omega)];rfl
  ·by_cases k2:999999999<x
   ·rw[decide_eq_true (Or.inr k2),decide_eq_false (p:=x≤999999999) (by omega),G9];rfl
   ·rw[decide_eq_false (p:=x<0∨999999999<x) (by omega),decide_eq_true (p:=0≤x) (by omega),decide_eq_true (p:=x≤999999999) (by omega)];rfl)
 rw[g1,←g2,←g4]
 cases d with
 |inl d=>rfl
 |inr d=>
  simp only[]
  rw[g3]
  cases d2 with
  |inl d2=>rfl
  |inr d2=>
   by_cases mL:e.text=[]
   ·rw[decide_eq_true mL];simp[mL]
   ·rw[decide_eq_false mL];simp[mL]
end Go.Z
