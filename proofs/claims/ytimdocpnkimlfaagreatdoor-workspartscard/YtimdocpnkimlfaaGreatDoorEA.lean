/- Chapter 10, plain. -/
import Derived.Test.YtimdocpnkimlfaaGreatDoorE6
import Derived.Test.YtimdocpnkimlfaaGreatDoorW12
set_option linter.unusedVariables false
set_option linter.unusedSimpArgs false
set_option maxRecDepth 100000
set_option maxHeartbeats 4000000
open Bool renaming false→I,false_eq_true→Ey,not_true→Gp,true→Gq,not_eq_true→Gw,false_or→G0
open Option renaming getD_some→En,some→Gs,isSome_some→Gt,any_some→Gz
open List renaming length_singleton→Gn,length_map→Gv,length_set→Gy,map_set→G1
namespace Go.Z
open Go Go.Abs Go.W
variable {r:aj}{e:GEv}
theorem X0 {a lo hi}:f88 a lo hi=Gs (decide (a<lo∨hi<a)):=by
 unfold f88
 by_cases h:a<lo
 ·simp[h]
 ·simp[h]
theorem zY {o}:decide (eG o<0)=!o.isSome:=by
 cases o with
 |none=>rfl
 |some k=>exact decide_eq_false (by show ¬(k:Int)<0;omega)
theorem j26 (b:GB r)(hk:e.kind=kH)(hc:zf e.er=0):gV (sg r e) (apply (qe .i64) r.er e.er):=by
 obtain⟨h1,h2⟩:=km hk (show yt kH=Gs (2,2)from rfl) hc
 obtain⟨n0,n1,hn⟩:=gW h1
 obtain⟨v0,v1,hv⟩:=gW h2
 unfold apply l6
 rw[show e.er.kind=kH from hk,if_pos (by decide),if_pos rfl,fk hn,l5 hn,vT hv,xd]
 unfold sg
 simp only[ig hn,gU hn,gU hv,qa,Ik (jh b.L),xb,X0,Ch (jh b.L)]
 rw[show decide (e.kind=([108,111,116]:List UInt8))=Gq from decide_eq_true hk,Fl (o:=Gs (r.lots.getD [])) (by have:=nc b.L;simp only[En,Gn];omega) (by simp)]
 simp only[cond_true]
 cases (zt r.er n0).isSome with
 |true=>exact⟨_,_,rfl,rfl,by decide⟩
 |false=>
  by_cases h1:v1<1∨10000<v1
  ·simp only[decide_eq_true h1,if_pos h1]
   exact⟨_,_,rfl,rfl,by decide⟩
  ·simp only[decide_eq_false h1,if_neg h1]
   by_cases h2:64≤(r.lots.getD []).length
   ·simp only[show decide (64≤((r.lots.getD []).length:Int))=Gq from decide_eq_true (by omega),xd,if_pos h2,Ey,if_false]
    exact⟨_,_,rfl,rfl,by decide⟩
   ·simp only[show decide (64≤((r.lots.getD []).length:Int))=I from decide_eq_false (by omega),xd,if_neg h2,Ey,if_false]
    exact⟨_,_,rfl,rfl,rfl⟩
theorem je8 (b:GB r)(hk:e.kind=nL)(hc:zf e.er=0):gV (sg r e) (apply (qe .i64) r.er e.er):=by
 obtain⟨h1,h2⟩:=km hk (show yt nL=Gs (1,1)from rfl) hc
 obtain⟨n0,hn⟩:=jI h1
 unfold apply l6
 rw[show e.er.kind=nL from hk,if_pos (by decide),if_neg (by decide),if_pos rfl,fk hn]
 have hl:r.er.ae.length=(r.ae.getD []).length:=by rw[rZ,Gv]
 unfold sg
 simp only[ig hn,qa,E9 (jh b.P),xb,Ch (jh b.P),hl]
 rw[show decide (e.kind=([108,111,116]:List UInt8))=I from decide_eq_false (by rw[hk];decide),show decide (e.kind=([112,114,111,100,117,99,116]:List UInt8))=Gq from decide_eq_true hk,Fl (o:=Gs (r.ae.getD [])) (by have:=nc b.P;simp only[En,Gn];omega) (by simp)]
 simp only[cond_true,cond_false]
 cases (z6 r.er n0).isSome with
 |true=>exact⟨_,_,rfl,rfl,by decide⟩
 |false=>
  by_cases h2:16≤(r.ae.getD []).length
  ·simp only[show decide (16≤((r.ae.getD []).length:Int))=Gq from decide_eq_true (by omega),if_pos h2]
   exact⟨_,_,rfl,rfl,by decide⟩
  ·simp only[show decide (16≤((r.ae.getD []).length:Int))=I from decide_eq_false (by omega),if_neg h2]
   exact⟨_,_,rfl,rfl,qws rfl⟩
theorem jpl (b:GB r)(hk:e.kind=mR)(hc:zf e.er=0):gV (sg r e) (apply (qe .i64) r.er e.er):=by
 obtain⟨h1,h2⟩:=km hk (show yt mR=Gs (2,1)from rfl) hc
 obtain⟨n0,n1,hn⟩:=gW h1
 unfold apply l6
 rw[show e.er.kind=mR from hk,if_pos (by decide),if_neg (by decide),if_neg (by decide),fk hn,l5 hn]
 have hl:r.er.units.length=(r.units.getD []).length:=by rw[mX,Gv]
 unfold sg
 simp only[ig hn,gU hn,qa,E9 (jh b.P),Nh (jh b.U),xb,zY,Ch (jh b.U),hl]
 rw[show decide (e.kind=([108,111,116]:List UInt8))=I from decide_eq_false (by rw[hk];decide),show decide (e.kind=([112,114,111,100,117,99,116]:List UInt8))=I from decide_eq_false (by rw[hk];decide)]
 simp only[cond_false]
 unfold ko
 cases hp:z6 r.er n1 with
 |none=>exact⟨_,_,rfl,rfl,by decide⟩
 |some k=>
  obtain⟨p,g1,_,g3⟩:=Fp hp
  have hd:p.er.aM.isEmpty=decide (((p.aM.getD []).length:Int)=0):=by
   show((p.aM.getD []).map bL.er).isEmpty=_
   cases p.aM.getD []with
   |nil=>rfl
   |cons x l=>simp;omega
  have pi:p.er.aM.length=(p.aM.getD []).length:=by show((p.aM.getD []).map bL.er).length=_;rw[Gv]
  simp only[Gt,Gp,cond_false,kc,jb g1,Option.bind_some,g3,hd,pi]
  rw[Fl (o:=Gs (r.units.getD [])) (by have:=nc b.U;simp only[En,Gn];omega) (by simp)]
  cases (zp r.er n0).isSome with
  |true=>exact⟨_,_,rfl,rfl,by decide⟩
  |false=>
   cases decide (((p.aM.getD []).length:Int)=0)with
   |true=>exact⟨_,_,rfl,rfl,by decide⟩
   |false=>
    by_cases h2:256≤(r.units.getD []).length
    ·simp only[show decide (256≤((r.units.getD []).length:Int))=Gq from decide_eq_true (by omega),if_pos h2]
     exact⟨_,_,rfl,rfl,by decide⟩
    ·simp only[show decide (256≤((r.units.getD []).length:Int))=I from decide_eq_false (by omega),if_neg h2]
     exact⟨_,_,rfl,rfl,qu4 rfl⟩
theorem q8j (b:GB r){k x}(hk:k<(r.lots.getD []).length):zZ r (k:Int) x=Gs { r with lots:=Gs ((r.lots.getD []).set k x) }:=by
 unfold zZ;rw[XK (jh b.L) hk];rfl
theorem jpo (b:GB r){k x}(hk:k<(r.ae.getD []).length):Aa r (k:Int) x=Gs { r with ae:=Gs ((r.ae.getD []).set k x) }:=by
 unfold Aa;rw[XK (jh b.P) hk];rfl
theorem Cs (hb:(r.units.getD []).length≤BB){k x}(hk:k<(r.units.getD []).length):f267 r (k:Int) x=Gs { r with units:=Gs ((r.units.getD []).set k x) }:=by
 unfold f267;rw[XK (jh hb) hk];rfl
theorem vW {α:Type}{l:List α}{k x}(h:l[k]?=Gs x):k<l.length:=(List.getElem?_eq_some_iff.1 h).1
theorem jf3 (b:GB r)(hold:Bool)(hk:e.kind=if hold then oB else rX)(hc:zf e.er=0):gV (Fx r e) (apply (qe .i64) r.er e.er):=by
 obtain⟨h1,h2⟩:=km (a:=1) (c:=1) hk (by cases hold<;>rfl) hc
 obtain⟨n0,hn⟩:=jI h1
 rw[kJ hk (by cases hold<;>decide) (by cases hold<;>decide),if_pos (by cases hold<;>decide)]
 unfold pk
 rw[fk hn]
 unfold Fx
 simp only[ig hn,qa,Ik (jh b.L),zY]
 cases hp:zt r.er n0 with
 |none=>exact⟨_,_,rfl,rfl,by decide⟩
 |some k=>
  obtain⟨x,g1,_⟩:=Jb hp
  simp only[Gt,Gp,cond_false,kc,jb g1,xd,g1,q8j b (vW g1),show e.er.kind=e.kind from rfl]
  cases hold with
  |true=>
   have hk:e.kind=oB:=hk
   rw[show decide (e.kind=([104,111,108,100]:List UInt8))=Gq from decide_eq_true hk,show decide (e.kind=([102,114,101,101]:List UInt8))=I from decide_eq_false (by rw[hk];decide),if_pos hk]
   by_cases hh:x.held=Gq
   ·simp only[hh,cond_true,if_true];exact⟨_,_,rfl,rfl,by decide⟩
   ·rw[Gw]at hh
    simp only[hh,cond_true,cond_false,Ey,if_false];exact⟨_,_,rfl,rfl,Nz rfl⟩
  |false=>
   have hk:e.kind=rX:=hk
   rw[show decide (e.kind=([104,111,108,100]:List UInt8))=I from decide_eq_false (by rw[hk];decide),show decide (e.kind=([102,114,101,101]:List UInt8))=Gq from decide_eq_true hk,if_neg (by rw[hk];decide)]
   by_cases hh:x.held=Gq
   ·simp only[hh,cond_true,cond_false,Gp,Ey,if_false];exact⟨_,_,rfl,rfl,Nz rfl⟩
   ·rw[Gw]at hh
    simp only[hh,cond_true,cond_false,Bool.not_false,if_true];exact⟨_,_,rfl,rfl,by decide⟩
theorem q6s {α:Type}{l:List α}{p x}(h:l.length≤16):16<(kg p x l).length↔(!(l.any p))=Gq∧16≤l.length:=by
 unfold kg
 rw[Fj]
 cases hi:l.findIdx? p with
 |some i=>
  simp only[Gy]
  constructor
  ·intro h2;omega
  ·rintro ⟨h2,_⟩;cases h2
 |none=>
  simp only[List.length_append,Gn]
  constructor
  ·intro h2;exact⟨rfl,by omega⟩
  ·rintro ⟨_,h2⟩;omega
theorem X2 (b:GB r)(w:WF r.er){kk:List UInt8}(iB:kk=mQ∨kk=nM∨kk=pW)(hk:e.kind=kk)(hc:zf e.er=0)(jD:∀v∈e.values.getD [],0≤v):gV (Ab r e) (apply (qe .i64) r.er e.er):=by
 have hR:apply (qe .i64) r.er e.er=ku r.er e.er:=by
  unfold apply
  rw[show e.er.kind=kk from hk,if_neg (by rcases iB with rfl|rfl|rfl<;>decide),if_pos iB]
 rw[hR]
 obtain⟨n0,t,hn⟩:∃n0 t,e.names.getD []=n0::t:=by
  rcases iB with rfl|rfl|rfl
  ·obtain⟨a,c,h⟩:=gW (km (c:=2) hk rfl hc).1;exact⟨_,_,h⟩
  ·obtain⟨a,c,h⟩:=gW (km (c:=3) hk rfl hc).1;exact⟨_,_,h⟩
  ·obtain⟨a,h⟩:=jI (km (c:=1) hk rfl hc).1;exact⟨_,_,h⟩
 cases hp:z6 r.er n0 with
 |none=>
  unfold ku
  rw[fk hn,hp]
  unfold Ab
  simp only[ig hn,qa,E9 (jh b.P),zY,hp]
  exact⟨_,_,rfl,rfl,by decide⟩
 |some k=>
 obtain⟨p,g1,_,g3⟩:=Fp hp
 have hm:=List.mem_of_getElem? g1
 have hD:=b.D p hm
 have Ac:p.er∈r.er.ae:=by rw[rZ];exact List.mem_map_of_mem hm
 have hkn:=w.aK _ Ac
 have hkt:=w.az _ Ac
 have X3:zz (·.k) (p.dn.getD []):=hkn.1
 have X4:(p.dn.getD []).length≤16:=hkn.2
 have X5:zz (·.k) (p.dt.getD []):=hkt.1
 have X6:(p.dt.getD []).length≤16:=hkt.2
 rw[NA (fk hn) hp g3]
 unfold Ab
 simp only[ig hn,qa,E9 (jh b.P),zY,hp,Gt,Gp,cond_false,kc,jb g1,jpo b (vW g1)]
 rcases iB with rfl|rfl|rfl
 ·obtain⟨h1,h2⟩:=km (a:=2) (c:=2) hk rfl hc
  obtain⟨n0',n1,jE⟩:=gW h1
  obtain⟨v0,v1,hv⟩:=gW h2
  have h0:0≤v1:=jD v1 (by rw[hv];simp)
  obtain⟨v,ww,f1,f2⟩:=jq2 (x:=⟨n1,v1⟩) (nc hD.2.1) X3 h0
  have f2:v.getD []=k9 (p.dn.getD []) n1 v1:=f2
  rw[if_pos hk,l5 jE,vT hv]
  simp only[gU hv,gU jE,f1,show decide (e.kind=([110,101,101,100]:List UInt8))=Gq from decide_eq_true hk,cond_true]
  by_cases hz:10000<v1
  ·rw[decide_eq_true hz,if_pos (Or.inr hz)];exact⟨_,_,rfl,rfl,by decide⟩
  ·rw[decide_eq_false hz,if_neg (show ¬(v1<0∨10000<v1) by omega)]
   have dN:({ r with ae:=Gs ((r.ae.getD []).set k ⟨p.name,v,p.dt,p.aM⟩) }:aj).er=bK r.er k { p.er with bU:={ p.er.bU with aK:=k9 (p.dn.getD []) n1 v1 } }:=by
    rw[Fq rfl]
    congr 1
    simp only[aS.er,f2]
   have hlen:decide (16<((v.getD []).length:Int))=decide (16<(k9 (p.dn.getD []) n1 v1).length):=by
    rw[f2]
    by_cases h:16<(k9 (p.dn.getD []) n1 v1).length
    ·rw[decide_eq_true h];exact decide_eq_true (by omega)
    ·rw[decide_eq_false h];exact decide_eq_false (by omega)
   have l7:16<(k9 (p.dn.getD []) n1 v1).length↔(0<v1∧(!(p.dn.getD []).any (di n1))=Gq∧16≤(p.dn.getD []).length):=by
    unfold k9
    by_cases pR:v1=0
    ·rw[if_pos pR]
     have:=List.length_filter_le (fun x=>!di n1 x) (p.dn.getD [])
     constructor
     ·intro h;omega
     ·rintro ⟨h,_⟩;omega
    ·rw[if_neg pR,q6s X4]
     constructor
     ·intro h;exact⟨by omega,h⟩
     ·exact fun h=>h.2
   simp only[cond_false,hlen]
   by_cases nS:16<(k9 (p.dn.getD []) n1 v1).length
   ·rw[decide_eq_true nS,if_pos (l7.1 nS)]
    cases ww<;>exact⟨_,_,rfl,rfl,by decide⟩
   ·rw[decide_eq_false nS,if_neg (fun h=>nS (l7.2 h))]
    cases ww<;>exact⟨_,_,rfl,rfl,dN⟩
 ·obtain⟨h1,h2⟩:=km (a:=2) (c:=3) hk rfl hc
  obtain⟨n0',n1,jE⟩:=gW h1
  obtain⟨v0,v1,v2,hv⟩:=jxo h2
  obtain⟨v,ww,f1,f2⟩:=jpq (x:=⟨n1,v1,v2⟩) (nc hD.2.2.1) X5
  have f2:v.getD []=kg (eP n1) ⟨n1,v1,v2⟩ (p.dt.getD []):=f2
  rw[if_neg (show ¬e.kind=mQ by rw[hk];decide),if_pos hk,l5 jE,vT hv,vl2 hv]
  simp only[gU hv,jvk hv,gU jE,f1,show decide (e.kind=([110,101,101,100]:List UInt8))=I from decide_eq_false (by rw[hk];decide),show decide (e.kind=([116,101,115,116]:List UInt8))=Gq from decide_eq_true hk,cond_true,cond_false]
  by_cases hz:v2<v1
  ·rw[decide_eq_true hz,if_pos hz];exact⟨_,_,rfl,rfl,by decide⟩
  ·rw[decide_eq_false hz,if_neg hz]
   have dN:({ r with ae:=Gs ((r.ae.getD []).set k ⟨p.name,p.dn,v,p.aM⟩) }:aj).er=bK r.er k { p.er with bU:={ p.er.bU with az:=kg (eP n1) ⟨n1,v1,v2⟩ (p.dt.getD []) } }:=by
    rw[Fq rfl]
    congr 1
    simp only[aS.er,f2]
   have hlen:decide (16<((v.getD []).length:Int))=decide (16<(kg (eP n1) ⟨n1,v1,v2⟩ (p.dt.getD [])).length):=by
    rw[f2]
    by_cases h:16<(kg (eP n1) ⟨n1,v1,v2⟩ (p.dt.getD [])).length
    ·rw[decide_eq_true h];exact decide_eq_true (by omega)
    ·rw[decide_eq_false h];exact decide_eq_false (by omega)
   have l7:=q6s (p:=eP n1) (x:=(⟨n1,v1,v2⟩:je)) X6
   simp only[cond_false,hlen]
   by_cases nS:16<(kg (eP n1) ⟨n1,v1,v2⟩ (p.dt.getD [])).length
   ·rw[decide_eq_true nS,if_pos (l7.1 nS)]
    cases ww<;>exact⟨_,_,rfl,rfl,by decide⟩
   ·rw[decide_eq_false nS,if_neg (fun h=>nS (l7.2 h))]
    cases ww<;>exact⟨_,_,rfl,rfl,dN⟩
 ·rw[if_neg (show ¬e.kind=mQ by rw[hk];decide),if_neg (show ¬e.kind=nM by rw[hk];decide)]
  simp only[show decide (e.kind=([110,101,101,100]:List UInt8))=I from decide_eq_false (by rw[hk];decide),show decide (e.kind=([116,101,115,116]:List UInt8))=I from decide_eq_false (by rw[hk];decide),cond_false,Ch (jh hD.1)]
  rw[Fl (o:=Gs (p.aM.getD [])) (by have:=nc hD.1;simp only[En,Gn];omega) (by simp)]
  have pi:p.er.aM.length=(p.aM.getD []).length:=by show((p.aM.getD []).map bL.er).length=_;rw[Gv]
  have hd:(p.dn.getD []).isEmpty=decide (((p.dn.getD []).length:Int)=0):=by
   cases p.dn.getD []with
   |nil=>rfl
   |cons x l=>simp;omega
  have dN:({ r with ae:=Gs ((r.ae.getD []).set k ⟨p.name,p.dn,p.dt,Gs (p.aM.getD []++[⟨p.dn,p.dt⟩])⟩) }:aj).er=bK r.er k { p.er with aM:=p.er.aM++[p.er.bU] }:=by
   rw[Fq rfl]
   congr 1
   simp only[aS.er,En,List.map_append,List.map_cons,List.map_nil]
   rfl
  simp only[hd,pi]
  cases decide (((p.dn.getD []).length:Int)=0)with
  |true=>exact⟨_,_,rfl,rfl,by decide⟩
  |false=>
   by_cases h2:100≤(p.aM.getD []).length
   ·simp only[show decide (100≤((p.aM.getD []).length:Int))=Gq from decide_eq_true (by omega),if_pos h2,Ey,if_false]
    exact⟨_,_,rfl,rfl,by decide⟩
   ·simp only[show decide (100≤((p.aM.getD []).length:Int))=I from decide_eq_false (by omega),if_neg h2,Ey,if_false]
    exact⟨_,_,rfl,rfl,dN⟩
end Go.Z
namespace Go.Z
open Go Go.Abs Go.W
variable {r:aj}{e:GEv}
theorem X7 {α:Type}(p:α→Bool):∀(l:List α) (c:Bool),l.foldl (fun c x=>if c then Gq else p x) c=(c||l.any p)
 | [],c=>by simp
 |x::l,c=>by
  rw[List.foldl_cons,X7 p l,List.any_cons]
  cases c<;>simp
theorem X8 {u}(h:u.shipped=I):(⟨u.name,u.product,u.version,u.uses,u.results,u.partner,I,u.ai⟩:ay)=u:=by cases u;simp only at h;rw[h]
theorem j7i (b:GB r)(w:WF r.er)(hk:e.kind=mS)(hc:zf e.er=0){k:Nat}{u n0 n1 v0 v1}(hn:e.names.getD []=[n0,n1])(hv:e.values.getD []=[v0,v1])(h1:(r.units.getD [])[k]?=Gs u):gV (f263 r (k:Int) e) (qC (qe .i64) r.er k u.er e.er):=by
 obtain⟨D,v,o⟩:=Co b w h1
 unfold qC
 rw[l5 hn,vT hv,o.xe]
 unfold f263
 simp only[jb h1,gU hn,gU hv,qa,Ik (jh b.L),zY]
 cases hq:zt r.er n1 with
 |none=>exact⟨_,_,rfl,rfl,by decide⟩
 |some j=>
 obtain⟨x,h4,_⟩:=Jb hq
 simp only[Gt,Gp,cond_false,kc,jb h4,xd,h4]
 by_cases hs:u.shipped=Gq
 ·rw[hs,if_pos (show u.er.shipped=Gq from hs)];exact⟨_,_,rfl,rfl,by decide⟩
 rw[if_neg (show ¬u.er.shipped=Gq from hs)]
 rw[Gw]at hs
 simp only[X8 hs,o.sd]
 rw[hs]
 simp only[cond_false]
 by_cases hz:v1=0
 ·rw[decide_eq_true hz,if_pos hz];exact⟨_,_,rfl,rfl,by decide⟩
 rw[decide_eq_false hz,if_neg hz]
 simp only[cond_false]
 by_cases hh:x.held=Gq
 ·rw[hh];exact⟨_,_,rfl,rfl,by decide⟩
 have V3:x.held=I:=by simpa using hh
 have L:=Fg (D.aK.getD []) (Ad r (k:Int) e u (j:Int) x D) (fun i (c:Bool)=>(c,(i:Int))) (fun c y=>if c then Gq else di x.kind y) (fun c=>(c,((D.aK.getD []).length:Int))) I (fun c=>by unfold Ad;simp only[zr];rfl)
  (fun i c y hy hi=>by
   unfold Ad
   simp only[ye hi,cond_true,qa,jb hy]
   rw[yh (by have:=o.aK;unfold BB at this;omega)]
   cases c<;>rfl)
 rw[X7,G0]at L
 have L':bm (Ad r (k:Int) e u (j:Int) x D) (I,0)=Gs ((D.aK.getD []).any (di x.kind),((D.aK.getD []).length:Int)):=L
 rw[if_neg hh]
 simp only[V3,cond_false,L',Gz,show D.er.aK=D.aK.getD []from rfl]
 cases (D.aK.getD []).any (di x.kind)with
 |false=>exact⟨_,_,rfl,rfl,by decide⟩
 |true=>
 simp only[cond_true,Gp,Ey,if_false]
 by_cases hl:x.left<v1
 ·rw[decide_eq_true hl,if_pos hl];exact⟨_,_,rfl,rfl,by decide⟩
 rw[decide_eq_false hl,if_neg hl]
 obtain⟨q,wq,q1,q2⟩:=jqd (o:=u.uses) (k:=x.name) (n:=v1) (nc o.uses) o.keyed
 rw[q1]
 simp only[cond_false,q8j b (vW h4)]
 rw[show(⟨u.name,u.product,u.version,q,u.results,u.partner,I,u.ai⟩:ay)={ u with uses:=q } by rw[←hs]]
 have f16:=Cs (r:={ r with lots:=Gs ((r.lots.getD []).set j ⟨x.name,x.kind,x.count,qe .i64 (x.left-v1),I⟩) }) (x:={ u with uses:=q }) b.U (vW h1)
 have dN:({ r with lots:=Gs ((r.lots.getD []).set j ⟨x.name,x.kind,x.count,qe .i64 (x.left-v1),I⟩),units:=Gs ((r.units.getD []).set k { u with uses:=q }) }:aj).er=av (cj r.er j ⟨x.name,x.kind,x.count,qe .i64 (x.left-v1),I⟩) k { u.er with uses:=jT (qe .i64) u.er.uses x.name v1 }:=by
  simp only[aj.er,av,cj,En,G1]
  congr 2
  simp only[ay.er,q2]
 simp only[f16]
 cases wq<;>exact⟨_,_,rfl,rfl,dN⟩
theorem jvi (b:GB r)(hk:e.kind=nO)(hc:zf e.er=0){k:Nat}{u n0 n1}(hn:e.names.getD []=[n0,n1])(h1:(r.units.getD [])[k]?=Gs u):gV (f264 r (k:Int) e) (qD r.er k u.er e.er):=by
 unfold qD
 rw[l5 hn]
 unfold f264
 simp only[jb h1,gU hn,qa,Nh (jh b.U),zY]
 cases hq:zp r.er n1 with
 |none=>exact⟨_,_,rfl,rfl,by decide⟩
 |some j=>
 obtain⟨v,h4,_,h5⟩:=qB hq
 rw[kc]
 simp only[Gt,Gp,cond_false,jb h4,h5]
 by_cases c1:k=j
 ·rw[if_pos c1,@decide_eq_true ((j:Int)=(k:Int)) _ (by omega)];exact⟨_,_,rfl,rfl,by decide⟩
 rw[if_neg c1,@decide_eq_false ((j:Int)=(k:Int)) _ (by omega)]
 simp only[cond_false]
 by_cases c2:u.product=v.product
 case neg=>rw[decide_eq_false c2,if_pos (show u.er.product≠v.er.product∨u.er.version≠v.er.version from Or.inl c2)];exact⟨_,_,rfl,rfl,by decide⟩
 by_cases dj:u.version=v.version
 case neg=>rw[decide_eq_true c2,decide_eq_false dj,if_pos (show u.er.product≠v.er.product∨u.er.version≠v.er.version from Or.inr dj)];exact⟨_,_,rfl,rfl,by decide⟩
 rw[if_neg (show ¬(u.er.product≠v.er.product∨u.er.version≠v.er.version)from fun h=>h.elim (fun h=>h c2) (fun h=>h dj)),decide_eq_true c2,decide_eq_true dj]
 simp only[cond_true]
 by_cases fm:u.shipped=Gq
 ·rw[if_pos (show u.er.shipped=Gq∨v.er.shipped=Gq from Or.inl fm),fm];exact⟨_,_,rfl,rfl,by decide⟩
 by_cases dA:v.shipped=Gq
 ·rw[if_pos (show u.er.shipped=Gq∨v.er.shipped=Gq from Or.inr dA)]
  have lm:u.shipped=I:=by simpa using fm
  rw[lm,dA];exact⟨_,_,rfl,rfl,by decide⟩
 have lm:u.shipped=I:=by simpa using fm
 have si:v.shipped=I:=by simpa using dA
 rw[if_neg (show ¬(u.er.shipped=Gq∨v.er.shipped=Gq)from fun h=>h.elim fm dA)]
 have f1:=Cs (r:=r) (x:={ u with partner:=v.name }) b.U (vW h1)
 have f2:=Cs (r:={ r with units:=Gs ((r.units.getD []).set k { u with partner:=v.name }) }) (k:=j) (x:={ v with partner:=u.name }) (by rw[En,Gy];exact b.U) (by rw[En,Gy];exact vW h4)
 have dN:({ r with units:=Gs (((r.units.getD []).set k { u with partner:=v.name }).set j { v with partner:=u.name }) }:aj).er=av (av r.er k { u.er with partner:=v.er.name }) j { v.er with partner:=u.er.name }:=by
  simp only[aj.er,av,En,G1]
  rfl
 rw[show(⟨u.name,u.product,u.version,u.uses,u.results,v.name,I,u.ai⟩:ay)={ u with partner:=v.name } by rw[←lm],show(⟨v.name,v.product,v.version,v.uses,v.results,u.name,I,v.ai⟩:ay)={ v with partner:=u.name } by rw[←si]]
 simp only[f1,f2]
 rw[lm,si]at dN ⊢
 simp only[cond_false]
 by_cases en:u.partner=[]
 case neg=>rw[if_pos (show u.er.partner≠[]∨v.er.partner≠[]from Or.inl en),decide_eq_false en];exact⟨_,_,rfl,rfl,by decide⟩
 by_cases nf:v.partner=[]
 case neg=>rw[if_pos (show u.er.partner≠[]∨v.er.partner≠[]from Or.inr nf),decide_eq_true en,decide_eq_false nf];exact⟨_,_,rfl,rfl,by decide⟩
 rw[if_neg (show ¬(u.er.partner≠[]∨v.er.partner≠[])from fun h=>h.elim (fun h=>h en) (fun h=>h nf)),decide_eq_true en,decide_eq_true nf]
 exact⟨_,_,rfl,rfl,dN⟩
theorem Fy (b:GB r)(w:WF r.er){kk:List UInt8}(iB:kk=mS∨kk=nO∨kk=pg∨kk=pX∨kk=kw∨kk=zQ)(hk:e.kind=kk)(hc:zf e.er=0):gV (Fz r e) (apply (qe .i64) r.er e.er):=by
 rw[kJ hk (by rcases iB with rfl|rfl|rfl|rfl|rfl|rfl<;>decide) (by rcases iB with rfl|rfl|rfl|rfl|rfl|rfl<;>decide),if_neg (by rcases iB with rfl|rfl|rfl|rfl|rfl|rfl<;>decide)]
 obtain⟨n0,t,hn⟩:∃n0 t,e.names.getD []=n0::t:=by
  rcases iB with rfl|rfl|rfl|rfl|rfl|rfl
  ·obtain⟨a,c,h⟩:=gW (km (c:=2) hk rfl hc).1;exact⟨_,_,h⟩
  ·obtain⟨a,c,h⟩:=gW (km (c:=1) hk rfl hc).1;exact⟨_,_,h⟩
  ·obtain⟨a,c,h⟩:=gW (km (c:=2) hk rfl hc).1;exact⟨_,_,h⟩
  ·obtain⟨a,h⟩:=jI (km (c:=1) hk rfl hc).1;exact⟨_,_,h⟩
  ·obtain⟨a,h⟩:=jI (km (c:=1) hk rfl hc).1;exact⟨_,_,h⟩
  ·obtain⟨a,h⟩:=jI (km (c:=1) hk rfl hc).1;exact⟨_,_,h⟩
 cases hp:zp r.er n0 with
 |none=>
  unfold lF
  rw[fk hn,hp]
  unfold Fz
  simp only[ig hn,qa,Nh (jh b.U),zY,hp]
  exact⟨_,_,rfl,rfl,by decide⟩
 |some k=>
 obtain⟨u,h1,_,h3⟩:=qB hp
 obtain⟨D,v,o⟩:=Co b w h1
 rw[xf (fk hn) hp h3]
 unfold Fz
 simp only[ig hn,qa,Nh (jh b.U),zY,hp,Gt,Gp,cond_false,kc,jb h1]
 rcases iB with rfl|rfl|rfl|rfl|rfl|rfl
 ·obtain⟨g1,g2⟩:=km (a:=2) (c:=2) hk rfl hc
  obtain⟨a,c,jE⟩:=gW g1
  obtain⟨v0,v1,hv⟩:=gW g2
  rw[if_pos hk,show decide (e.kind=([117,115,101]:List UInt8))=Gq from decide_eq_true hk]
  obtain⟨r',cc,q1,q2⟩:=j7i b w hk hc jE hv h1
  simp only[cond_true,q1]
  exact⟨_,_,rfl,q2⟩
 ·obtain⟨g1,g2⟩:=km (a:=2) (c:=1) hk rfl hc
  obtain⟨a,c,jE⟩:=gW g1
  rw[if_neg (show ¬e.kind=mS by rw[hk];decide),if_pos hk,show decide (e.kind=([117,115,101]:List UInt8))=I from decide_eq_false (by rw[hk];decide),show decide (e.kind=([112,97,105,114]:List UInt8))=Gq from decide_eq_true hk]
  obtain⟨r',cc,q1,q2⟩:=jvi b hk hc jE h1
  simp only[cond_true,cond_false,q1]
  exact⟨_,_,rfl,q2⟩
 ·obtain⟨g1,g2⟩:=km (a:=2) (c:=2) hk rfl hc
  obtain⟨a,n1,jE⟩:=gW g1
  obtain⟨v0,v1,hv⟩:=gW g2
  rw[if_neg (show ¬e.kind=mS by rw[hk];decide),if_neg (show ¬e.kind=nO by rw[hk];decide),if_pos hk,show decide (e.kind=([117,115,101]:List UInt8))=I from decide_eq_false (by rw[hk];decide),show decide (e.kind=([112,97,105,114]:List UInt8))=I from decide_eq_false (by rw[hk];decide),show decide (e.kind=([109,101,97,115,117,114,101]:List UInt8))=Gq from decide_eq_true hk,l5 jE,vT hv,o.xe]
  simp only[cond_true,cond_false]
  by_cases hs:u.shipped=Gq
  ·rw[hs];exact⟨_,_,rfl,rfl,by decide⟩
  have hJ:u.shipped=I:=by simpa using hs
  have L:=Fg (D.az.getD []) (Ae r e (k:Int) u D) (fun i (c:Bool)=>(c,(i:Int))) (fun c y=>if c then Gq else eP n1 y) (fun c=>(c,((D.az.getD []).length:Int))) I (fun c=>by unfold Ae;simp only[zr];rfl)
   (fun i c y hy hi=>by
    unfold Ae
    simp only[ye hi,cond_true,qa,jb hy,gU jE]
    rw[yh (by have:=o.az;unfold BB at this;omega)]
    cases c<;>rfl)
  rw[X7,G0]at L
  have L':bm (Ae r e (k:Int) u D) (I,0)=Gs ((D.az.getD []).any (eP n1),((D.az.getD []).length:Int)):=L
  rw[if_neg hs]
  simp only[X8 hJ,o.sd,L',gU jE,gU hv,Ch (jh o.results)]
  rw[hJ,Fl (o:=Gs (u.results.getD [])) (by have:=nc o.results;simp only[En,Gn];omega) (by simp)]
  simp only[cond_false,Gz,show D.er.az=D.az.getD []from rfl]
  cases (D.az.getD []).any (eP n1)with
  |false=>exact⟨_,_,rfl,rfl,by decide⟩
  |true=>
   have f16:=Cs (r:=r) (x:={ u with results:=Gs (u.results.getD []++[⟨n1,u.version,v1⟩]) }) b.U (vW h1)
   have dN:({ r with units:=Gs ((r.units.getD []).set k { u with results:=Gs (u.results.getD []++[⟨n1,u.version,v1⟩]) }) }:aj).er=av r.er k { u.er with results:=u.results.getD []++[⟨n1,u.version,v1⟩] }:=by rw[zX rfl];rfl
   rw[hJ]at f16
   by_cases h2:64≤(u.results.getD []).length
   ·simp only[show decide (64≤((u.results.getD []).length:Int))=Gq from decide_eq_true (by omega),if_pos h2,Gp,Ey,if_false,cond_true]
    exact⟨_,_,rfl,rfl,by decide⟩
   ·simp only[show decide (64≤((u.results.getD []).length:Int))=I from decide_eq_false (by omega),if_neg h2,Gp,Ey,if_false,cond_true,cond_false,En,f16]
    rw[hJ]at dN
    exact⟨_,_,rfl,rfl,dN⟩
 ·rw[if_neg (show ¬e.kind=mS by rw[hk];decide),if_neg (show ¬e.kind=nO by rw[hk];decide),if_neg (show ¬e.kind=pg by rw[hk];decide),if_pos hk,show decide (e.kind=([117,115,101]:List UInt8))=I from decide_eq_false (by rw[hk];decide),show decide (e.kind=([112,97,105,114]:List UInt8))=I from decide_eq_false (by rw[hk];decide),show decide (e.kind=([109,101,97,115,117,114,101]:List UInt8))=I from decide_eq_false (by rw[hk];decide),show decide (e.kind=([117,112,100,97,116,101]:List UInt8))=Gq from decide_eq_true hk,o.new]
  simp only[cond_true,cond_false]
  by_cases hs:u.shipped=Gq
  ·rw[hs];exact⟨_,_,rfl,rfl,by decide⟩
  have hJ:u.shipped=I:=by simpa using hs
  rw[if_neg hs]
  have f16:=Cs (r:=r) (x:={ u with version:=v }) b.U (vW h1)
  have dN:({ r with units:=Gs ((r.units.getD []).set k { u with version:=v }) }:aj).er=av r.er k { u.er with version:=v }:=by rw[zX rfl];rfl
  rw[hJ]at f16 dN
  simp only[X8 hJ,(Nj (jh b.P) o.new).2,f16]
  rw[hJ]
  simp only[cond_false]
  by_cases h:u.version=v
  ·rw[decide_eq_true h,if_pos h];exact⟨_,_,rfl,rfl,by decide⟩
  ·rw[decide_eq_false h,if_neg h];exact⟨_,_,rfl,rfl,dN⟩
 ·rw[if_neg (show ¬e.kind=mS by rw[hk];decide),if_neg (show ¬e.kind=nO by rw[hk];decide),if_neg (show ¬e.kind=pg by rw[hk];decide),if_neg (show ¬e.kind=pX by rw[hk];decide),if_pos hk,show decide (e.kind=([117,115,101]:List UInt8))=I from decide_eq_false (by rw[hk];decide),show decide (e.kind=([112,97,105,114]:List UInt8))=I from decide_eq_false (by rw[hk];decide),show decide (e.kind=([109,101,97,115,117,114,101]:List UInt8))=I from decide_eq_false (by rw[hk];decide),show decide (e.kind=([117,112,100,97,116,101]:List UInt8))=I from decide_eq_false (by rw[hk];decide),show decide (e.kind=([115,104,105,112]:List UInt8))=Gq from decide_eq_true hk]
  have g2:=q8z (jh b.P) o.new (jh b.L) (jh o.uses) o.lots o.sd o.xe (jh o.aK) (jh o.results) (jh o.az)
  have f16:=Cs (r:=r) (x:={ u with shipped:=Gq }) b.U (vW h1)
  simp only[cond_true,cond_false,g2,f16]
  by_cases h:lE (qe .i64) r.er u.er=0
  ·rw[decide_eq_true h,if_neg (fun hh=>hh h)];exact⟨_,_,rfl,rfl,zX rfl⟩
  ·rw[decide_eq_false h,if_pos h];exact⟨_,_,rfl,rfl,h⟩
 ·rw[if_neg (show ¬e.kind=mS by rw[hk];decide),if_neg (show ¬e.kind=nO by rw[hk];decide),if_neg (show ¬e.kind=pg by rw[hk];decide),if_neg (show ¬e.kind=pX by rw[hk];decide),if_neg (show ¬e.kind=kw by rw[hk];decide),show decide (e.kind=([117,115,101]:List UInt8))=I from decide_eq_false (by rw[hk];decide),show decide (e.kind=([112,97,105,114]:List UInt8))=I from decide_eq_false (by rw[hk];decide),show decide (e.kind=([109,101,97,115,117,114,101]:List UInt8))=I from decide_eq_false (by rw[hk];decide),show decide (e.kind=([117,112,100,97,116,101]:List UInt8))=I from decide_eq_false (by rw[hk];decide),show decide (e.kind=([115,104,105,112]:List UInt8))=I from decide_eq_false (by rw[hk];decide)]
  have f16:=Cs (r:=r) (x:={ u with ai:=qe .i64 (u.ai+1) }) b.U (vW h1)
  have dN:({ r with units:=Gs ((r.units.getD []).set k { u with ai:=qe .i64 (u.ai+1) }) }:aj).er=av r.er k { u.er with ai:=qe .i64 (u.ai+1) }:=by rw[zX rfl];rfl
  simp only[cond_false]
  by_cases hs:u.shipped=Gq
  ·rw[hs]at f16 dN ⊢
   simp only[f16]
   exact⟨_,_,rfl,rfl,dN⟩
  ·have hJ:u.shipped=I:=by simpa using hs
   rw[hJ]
   exact⟨_,_,rfl,rfl,by decide⟩
end Go.Z
