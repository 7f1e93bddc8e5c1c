/- Chapter 10, plain. -/
import Derived.Test.YtimdocpnkimlfaaGreatDoorE1
set_option linter.unusedVariables false
set_option linter.unusedSimpArgs false
set_option maxRecDepth 100000
open Option renaming some→I,getD_some→Ey,isSome_iff_exists→Gt,any_some→Hd
open Bool renaming false_eq_true→En,true_and→Gp,and_true→Gq,true→Gs,false→Gv,not_true→G0,not_false→Ha,and_eq_true→Hc
open List renaming mem_of_getElem?→Gn,length_map→Gw,getElem?_map→Gy,map_cons→Gz,length_cons→G1,map_nil→G2,map_set→G5,map_append→G6,length_nil→G7,length_singleton→G9,mem_map_of_mem→Hb
namespace Go.Z
open Go Go.Abs Go.W
abbrev BB:Nat:=1000000
structure GB (r:aj):Prop where
 L:(r.lots.getD []).length≤BB
 P:(r.ae.getD []).length≤BB
 U:(r.units.getD []).length≤BB
 D:∀p∈r.ae.getD [],(p.aM.getD []).length≤BB∧(p.dn.getD []).length≤BB∧(p.dt.getD []).length≤BB∧∀d∈p.aM.getD [],(d.aK.getD []).length≤BB∧(d.az.getD []).length≤BB
 N:∀u∈r.units.getD [],(u.uses.getD []).length≤BB∧(u.results.getD []).length≤BB
theorem jh {n}(h:n≤BB):n≤SM:=by unfold BB at h;unfold SM;omega
theorem nc {n}(h:n≤BB):n<SM:=by unfold BB at h;unfold SM;omega
def nR (x:Option (Int×aj))(y:qA):Prop:=∃c r',x=I (c,r')∧match y with
 | .error k=>c=k∧k≠0
 | .ok s=>c=0∧r'.er=s
variable {r:aj}{e:GEv}
theorem Ny {a lo hi}:f60 a lo hi=I (if a<lo∨hi<a then 3 else 0):=by
 unfold f60
 by_cases h1:a<lo
 ·simp[h1,kI,qa]
 ·by_cases h2:hi<a<;>simp[h1,h2,kI,qa]
theorem kc {k}:eG (I k)=(k:Int):=rfl
theorem xb {o}:decide (0≤eG o)=o.isSome:=xa o
theorem Jb {n k}(h:zt r.er n=I k):∃x,(r.lots.getD [])[k]?=I x∧x.name=n:=by
 obtain⟨x,h1,h2,_⟩:=bg h
 exact⟨x,h1,of_decide_eq_true h2⟩
theorem Fp {n k}(h:z6 r.er n=I k):∃p,(r.ae.getD [])[k]?=I p∧p.name=n∧r.er.ae[k]?=I p.er:=by
 rw[Ng]at h
 obtain⟨x,h1,h2,_⟩:=bg h
 exact⟨x,h1,of_decide_eq_true h2,by rw[rZ,Gy,h1];rfl⟩
theorem qB {n k}(h:zp r.er n=I k):∃u,(r.units.getD [])[k]?=I u∧u.name=n∧r.er.units[k]?=I u.er:=by
 rw[XE]at h
 obtain⟨x,h1,h2,_⟩:=bg h
 exact⟨x,h1,of_decide_eq_true h2,by rw[mX,Gy,h1];rfl⟩
theorem ig {α:Type}{l:List α}{a t}(h:l=a::t):qr l 0=I a:=by subst h;rfl
theorem gU {α:Type}{l:List α}{a b t}(h:l=a::b::t):qr l 1=I b:=by subst h;rfl
theorem jvk {α:Type}{l:List α}{a b c t}(h:l=a::b::c::t):qr l 2=I c:=by subst h;rfl
theorem fk {a t}(h:e.names.getD []=a::t):nm e.er 0=a:=by unfold nm;rw[show e.er.names=e.names.getD []from rfl,h];rfl
theorem l5 {a b t}(h:e.names.getD []=a::b::t):nm e.er 1=b:=by unfold nm;rw[show e.er.names=e.names.getD []from rfl,h];rfl
theorem vl0 {a t}(h:e.values.getD []=a::t):vl e.er 0=a:=by unfold vl;rw[show e.er.values=e.values.getD []from rfl,h];rfl
theorem vT {a b t}(h:e.values.getD []=a::b::t):vl e.er 1=b:=by unfold vl;rw[show e.er.values=e.values.getD []from rfl,h];rfl
theorem vl2 {a b c t}(h:e.values.getD []=a::b::c::t):vl e.er 2=c:=by unfold vl;rw[show e.er.values=e.values.getD []from rfl,h];rfl
theorem xd:r.er.lots=r.lots.getD []:=rfl
theorem aj.eta (r:aj):(⟨r.day,r.lots,r.ae,r.units⟩:aj)=r:=rfl
theorem a105 (b:GB r){n0 n1:List UInt8}{v0 v1:Int}(hk:e.kind=kH)(hn:e.names.getD []=[n0,n1])(hv:e.values.getD []=[v0,v1]):
  nR (fG 168 r e) (apply (qe .i64) r.er e.er):=by
 have hR:apply (qe .i64) r.er e.er=l6 r.er e.er:=by unfold apply;rw[if_pos (.inl hk)]
 rw[hR]
 unfold l6
 rw[if_pos (show e.er.kind=kH from hk),fk hn,l5 hn,vT hv,xd]
 have hA:fG 168 r e=qa (Jc e r.day r.lots r.ae r.units) fun v=>I (v.1,{ r with lots:=v.2.1 }):=rfl
 rw[hA]
 unfold Jc
 simp only[aj.eta,ig hn,gU hn,gU hv,qa,B6 (jh b.L),kI,Ny,xb]
 rw[jH (by simp[SM])]
 simp only[jra (nc b.L)]
 cases (zt r.er n0).isSome with
 |true=>exact⟨_,_,rfl,rfl,by decide⟩
 |false=>
  by_cases h1:v1<1∨10000<v1
  ·simp only[En,if_false,h1,if_true,ie]
   exact⟨_,_,rfl,rfl,by decide⟩
  ·by_cases h2:64≤(r.lots.getD []).length
   ·have oZ:decide (64≤((r.lots.getD []).length:Int))=Gs:=decide_eq_true (by omega)
    simp only[En,if_false,h1,h2,oZ,if_true,ie]
    exact⟨_,_,rfl,rfl,by decide⟩
   ·have oZ:decide (64≤((r.lots.getD []).length:Int))=Gv:=decide_eq_false (by omega)
    simp only[En,if_false,h1,h2,oZ,if_true,ie]
    exact⟨_,_,rfl,rfl,rfl⟩
theorem qws {o p}(h:o=I (r.ae.getD []++[p])):({ r with ae:=o }:aj).er={ r.er with ae:=r.er.ae++[p.er] }:=by
 subst h
 simp only[aj.er,Ey,G6,Gz,G2]
theorem qu4 {o p}(h:o=I (r.units.getD []++[p])):({ r with units:=o }:aj).er={ r.er with units:=r.er.units++[p.er] }:=by
 subst h
 simp only[aj.er,Ey,G6,Gz,G2]
theorem Fq {o p k}(h:o=I ((r.ae.getD []).set k p)):({ r with ae:=o }:aj).er=bK r.er k p.er:=by
 subst h
 simp only[aj.er,bK,Ey,G5]
theorem zX {o p k}(h:o=I ((r.units.getD []).set k p)):({ r with units:=o }:aj).er=av r.er k p.er:=by
 subst h
 simp only[aj.er,av,Ey,G5]
theorem Nz {o p k}(h:o=I ((r.lots.getD []).set k p)):({ r with lots:=o }:aj).er=cj r.er k p:=by
 subst h
 simp only[aj.er,cj,Ey]
theorem zfc (b:GB r){n0:List UInt8}{v0:Int}(hk:e.kind=nL)(hn:e.names.getD []=[n0])(hv:e.values.getD []=[v0]):
  nR (fG 169 r e) (apply (qe .i64) r.er e.er):=by
 have hR:apply (qe .i64) r.er e.er=l6 r.er e.er:=by unfold apply;rw[if_pos (.inr (.inl hk))]
 rw[hR]
 unfold l6
 rw[if_neg (show ¬e.er.kind=kH from fun h=>by rw[show e.er.kind=e.kind from rfl,hk]at h;exact absurd h (by decide)),if_pos (show e.er.kind=nL from hk),fk hn]
 have hA:fG 169 r e=qa (f169 e r.day r.lots r.ae r.units) fun v=>I (v.1,{ r with ae:=v.2.1 }):=rfl
 rw[hA]
 unfold f169
 simp only[aj.eta,ig hn,qa,vR (jh b.P),kI,xb]
 rw[jH (by simp[SM])]
 simp only[jrj (nc b.P)]
 have hl:r.er.ae.length=(r.ae.getD []).length:=by rw[rZ,Gw]
 rw[hl]
 cases (z6 r.er n0).isSome with
 |true=>exact⟨_,_,rfl,rfl,by decide⟩
 |false=>
  by_cases h2:16≤(r.ae.getD []).length
  ·have oZ:decide (16≤((r.ae.getD []).length:Int))=Gs:=decide_eq_true (by omega)
   simp only[En,if_false,h2,oZ,if_true,ie]
   exact⟨_,_,rfl,rfl,by decide⟩
  ·have oZ:decide (16≤((r.ae.getD []).length:Int))=Gv:=decide_eq_false (by omega)
   simp only[En,if_false,h2,oZ,if_true,ie]
   exact⟨_,_,rfl,rfl,qws rfl⟩
theorem zd2 (b:GB r){n0 n1:List UInt8}{v0:Int}{k}(hk:e.kind=mR)(hn:e.names.getD []=[n0,n1])(hv:e.values.getD []=[v0])(hp:z6 r.er n1=I k):
  nR (fG 173 r e) (apply (qe .i64) r.er e.er):=by
 have hR:apply (qe .i64) r.er e.er=l6 r.er e.er:=by unfold apply;rw[if_pos (.inr (.inr hk))]
 rw[hR]
 obtain⟨p,h1,_,h3⟩:=Fp hp
 have hpo:ko r.er n1=I p.er:=by unfold ko;rw[hp];exact h3
 unfold l6
 rw[if_neg (show ¬e.er.kind=kH from fun h=>by rw[show e.er.kind=e.kind from rfl,hk]at h;exact absurd h (by decide)),if_neg (show ¬e.er.kind=nL from fun h=>by rw[show e.er.kind=e.kind from rfl,hk]at h;exact absurd h (by decide)),fk hn,l5 hn,hpo]
 have hA:fG 173 r e=qa (Jd e r.day r.lots r.ae r.units) fun v=>I (v.1,{ r with units:=v.2.1 }):=rfl
 rw[hA]
 unfold Jd Ff
 simp only[aj.eta,ig hn,gU hn,qa,vR (jh b.P),wY (jh b.U),kI,xb,hp,kc,jb h1]
 rw[jH (by simp[SM])]
 simp only[jrv (nc b.U)]
 have hl:r.er.units.length=(r.units.getD []).length:=by rw[mX,Gw]
 have hd:p.er.aM.isEmpty=decide (((p.aM.getD []).length:Int)=0):=by
  show((p.aM.getD []).map bL.er).isEmpty=_
  cases p.aM.getD []with
  |nil=>rfl
  |cons x l=>simp;omega
 have pi:p.er.aM.length=(p.aM.getD []).length:=by show((p.aM.getD []).map bL.er).length=_;rw[Gw]
 simp only[hl,hd,pi]
 cases (zp r.er n0).isSome with
 |true=>exact⟨_,_,rfl,rfl,by decide⟩
 |false=>
  cases hz:decide (((p.aM.getD []).length:Int)=0)with
  |true=>exact⟨_,_,rfl,rfl,by decide⟩
  |false=>
   by_cases h2:256≤(r.units.getD []).length
   ·have oZ:decide (256≤((r.units.getD []).length:Int))=Gs:=decide_eq_true (by omega)
    simp only[En,if_false,h2,oZ,if_true,ie]
    exact⟨_,_,rfl,rfl,by decide⟩
   ·have oZ:decide (256≤((r.units.getD []).length:Int))=Gv:=decide_eq_false (by omega)
    simp only[En,if_false,h2,oZ,if_true,ie]
    exact⟨_,_,rfl,rfl,qu4 rfl⟩
theorem jpi {p c n}(hl:(p.dn.getD []).length<SM):∃v,Cm c n n p=I { p with dn:=v }∧v.getD []=k9 (p.dn.getD []) n c:=by
 unfold Cm k9
 by_cases h:c=0
 ·simp only[h,decide_true,cond_true,if_true,jp2 (Nat.le_of_lt hl),qa]
  exact⟨_,rfl,j8 _⟩
 ·obtain⟨v,w,h1,h2⟩:=jqm (x:=⟨n,c⟩) (k:=n) hl
  simp only[h,decide_false,cond_false,if_false,h1,qa]
  exact⟨_,rfl,h2⟩
theorem jj3 (b:GB r){n0 n1 c k p}(hp:z6 r.er n0=I k)(hx:(r.ae.getD [])[k]?=I p):∃v,Cn n0 c n1 n1 r.day r.lots r.ae r.units=I (I ((r.ae.getD []).set k { p with dn:=v }))∧v.getD []=k9 (p.dn.getD []) n1 c:=by
 obtain⟨v,h1,h2⟩:=jpi (c:=c) (n:=n1) (nc (b.D p (Gn hx)).2.1)
 refine⟨v,?_,h2⟩
 unfold Cn XP
 simp only[aj.eta,vR (jh b.P),hp,kc,qa]
 rw[oD (jh b.P) hx h1]
theorem jja (b:GB r){n0 t k p}(hp:z6 r.er n0=I k)(hx:(r.ae.getD [])[k]?=I p):∃v,Fs n0 t t r.day r.lots r.ae r.units=I (I ((r.ae.getD []).set k { p with dt:=v }))∧v.getD []=kg (eP t.k) t (p.dt.getD []):=by
 obtain⟨v,w,h1,h2⟩:=jqf (x:=t) (s:=t) (o:=p.dt) (nc (b.D p (Gn hx)).2.2.1)
 refine⟨v,?_,h2⟩
 unfold Fs XQ
 simp only[aj.eta,vR (jh b.P),hp,kc,qa]
 rw[oD (jh b.P) hx (show Je t t p=I { p with dt:=v } by unfold Je;rw[h1];rfl)]
theorem NA {n0:List UInt8}{k:Nat}{p:aS}(hn:nm e.er 0=n0)(hp:z6 r.er n0=I k)(h3:r.er.ae[k]?=I p.er):ku r.er e.er =
   if e.kind=mQ then
    (if vl e.er 1<0∨10000<vl e.er 1 then .error 3 else if 0<vl e.er 1∧!((p.dn.getD []).any (di (nm e.er 1)))∧16≤(p.dn.getD []).length then .error 5 else
     .ok (bK r.er k { p.er with bU:={ p.er.bU with aK:=k9 (p.dn.getD []) (nm e.er 1) (vl e.er 1) } }))
   else if e.kind=nM then
    (if vl e.er 2<vl e.er 1 then .error 11 else if !((p.dt.getD []).any (eP (nm e.er 1)))∧16≤(p.dt.getD []).length then .error 5 else
     .ok (bK r.er k { p.er with bU:={ p.er.bU with az:=kg (eP (nm e.er 1)) ⟨nm e.er 1,vl e.er 1,vl e.er 2⟩ (p.dt.getD []) } }))
   else(if(p.dn.getD []).isEmpty then .error 12 else if 100≤p.er.aM.length then .error 5 else .ok (bK r.er k { p.er with aM:=p.er.aM++[p.er.bU] })):=by
 unfold ku
 rw[hn,hp]
 simp only[h3]
 rfl
theorem zlh (b:GB r){n0 n1:List UInt8}{v0 v1:Int}{k:Nat}(hk:e.kind=mQ)(hn:e.names.getD []=[n0,n1])(hv:e.values.getD []=[v0,v1])(hp:z6 r.er n0=I k):
  nR (fG 170 r e) (apply (qe .i64) r.er e.er):=by
 have hR:apply (qe .i64) r.er e.er=ku r.er e.er:=by
  unfold apply
  rw[show e.er.kind=mQ from hk,if_neg (by decide),if_pos (.inl rfl)]
 obtain⟨p,h1,_,h3⟩:=Fp hp
 rw[hR,NA (fk hn) hp h3,if_pos hk,l5 hn,vT hv]
 have hA:fG 170 r e=qa (f170 e r.day r.lots r.ae r.units) fun v=>I (v.1,{ r with ae:=v.2 }):=rfl
 rw[hA]
 obtain⟨v,g1,g2⟩:=jj3 b (n1:=n1) (c:=v1) hp h1
 have Bl:=(b.D p (Gn h1)).2.1
 have dN:({ r with ae:=I ((r.ae.getD []).set k { p with dn:=v }) }:aj).er=bK r.er k { p.er with bU:={ p.er.bU with aK:=k9 (p.dn.getD []) n1 v1 } }:=by
  rw[Fq rfl]
  congr 1
  simp only[aS.er,g2]
 unfold f170
 simp only[aj.eta,ig hn,gU hn,gU hv,qa,vR (jh b.P),hp,kc,jb h1,Ny,kI,jke (jh Bl),g1]
 by_cases hz:v1<0∨10000<v1
 ·simp only[hz,if_true,if_false,En]
  cases decide (0<v1)<;>cases (p.dn.getD []).any (di n1)<;>(simp only[cond_true,cond_false];rw[jH (by simp[SM])];exact⟨_,_,rfl,rfl,by decide⟩)
 ·simp only[hz,if_false,if_true,En]
  by_cases h0:0<v1
  ·rw[decide_eq_true h0]
   cases ha:(p.dn.getD []).any (di n1)with
   |true=>
    simp only[cond_true,G0,En,false_and,and_false,if_false]
    rw[jH (by simp[SM])]
    exact⟨_,_,rfl,rfl,dN⟩
   |false=>
    simp only[cond_true,cond_false,Ha,true_and,h0]
    rw[jH (by simp[SM])]
    by_cases h2:16≤(p.dn.getD []).length
    ·rw[show decide (16≤((p.dn.getD []).length:Int))=Gs from decide_eq_true (by omega),if_pos h2]
     exact⟨_,_,rfl,rfl,by decide⟩
    ·rw[show decide (16≤((p.dn.getD []).length:Int))=Gv from decide_eq_false (by omega),if_neg h2]
     exact⟨_,_,rfl,rfl,dN⟩
  ·rw[decide_eq_false h0,if_neg (show ¬(0<v1∧(!(p.dn.getD []).any (di n1))=Gs∧16≤(p.dn.getD []).length)from fun h=>h0 h.1)]
   simp only[cond_false]
   rw[jH (by simp[SM])]
   exact⟨_,_,rfl,rfl,dN⟩
theorem zdh (b:GB r){n0 n1:List UInt8}{v0 v1 v2:Int}{k:Nat}(hk:e.kind=nM)(hn:e.names.getD []=[n0,n1])(hv:e.values.getD []=[v0,v1,v2])(hp:z6 r.er n0=I k):
  nR (fG 171 r e) (apply (qe .i64) r.er e.er):=by
 have hR:apply (qe .i64) r.er e.er=ku r.er e.er:=by
  unfold apply
  rw[show e.er.kind=nM from hk,if_neg (by decide),if_pos (.inr (.inl rfl))]
 obtain⟨p,h1,_,h3⟩:=Fp hp
 rw[hR,NA (fk hn) hp h3,if_neg (by rw[hk];decide),if_pos hk,l5 hn,vT hv,vl2 hv]
 have hA:fG 171 r e=qa (f171 e r.day r.lots r.ae r.units) fun v=>I (v.1,{ r with ae:=v.2 }):=rfl
 rw[hA]
 obtain⟨v,g1,g2⟩:=jja b (t:=⟨n1,v1,v2⟩) hp h1
 have Bl:=(b.D p (Gn h1)).2.2.1
 have dN:({ r with ae:=I ((r.ae.getD []).set k { p with dt:=v }) }:aj).er=bK r.er k { p.er with bU:={ p.er.bU with az:=kg (eP n1) ⟨n1,v1,v2⟩ (p.dt.getD []) } }:=by
  rw[Fq rfl]
  congr 1
  simp only[aS.er,g2]
 unfold f171
 simp only[aj.eta,ig hn,gU hn,gU hv,jvk hv,qa,vR (jh b.P),hp,kc,jb h1,kI,jmt (jh Bl),g1]
 by_cases hz:v2<v1
 ·rw[decide_eq_true hz,if_pos hz]
  cases (p.dt.getD []).any (eP n1)<;>(simp only[cond_true,cond_false];rw[jH (by simp[SM])];exact⟨_,_,rfl,rfl,by decide⟩)
 ·rw[decide_eq_false hz,if_neg hz]
  cases ha:(p.dt.getD []).any (eP n1)with
  |true=>
   simp only[cond_true,G0,En,false_and,if_false]
   rw[jH (by simp[SM])]
   exact⟨_,_,rfl,rfl,dN⟩
  |false=>
   simp only[cond_false,Ha,true_and]
   rw[jH (by simp[SM])]
   by_cases h2:16≤(p.dt.getD []).length
   ·rw[show decide (16≤((p.dt.getD []).length:Int))=Gs from decide_eq_true (by omega),if_pos h2]
    exact⟨_,_,rfl,rfl,by decide⟩
   ·rw[show decide (16≤((p.dt.getD []).length:Int))=Gv from decide_eq_false (by omega),if_neg h2]
    exact⟨_,_,rfl,rfl,dN⟩
theorem q59 {α:Type}{o:Option (List α)}(h:(o.getD []).length≤SM):∃v w,(cond o.isNone (I (none,Gv)) (qa (bH (I []) (o.getD [])) fun v=>I (v,Gs)))=I (v,w)∧v.getD []=o.getD []:=by
 cases o with
 |none=>exact⟨none,Gv,rfl,rfl⟩
 |some l=>
  have h':l.length≤SM:=h
  simp only[Option.isNone_some,cond_false,Ey]
  rw[Ch h']
  exact⟨_,_,rfl,rfl⟩
theorem jq9 {d:bL}(h1:(d.aK.getD []).length≤SM)(h2:(d.az.getD []).length≤SM):∃d',f224 d=I d'∧d'.er=d.er:=by
 obtain⟨v,w,g1,g2⟩:=q59 h1
 obtain⟨v',w',g3,g4⟩:=q59 h2
 unfold f224
 rw[show Jf d.aK=I (v,w)from g1,show Jg d.az=I (v',w')from g3]
 exact⟨⟨v,v'⟩,rfl,by simp only[bL.er,g2,g4]⟩
theorem a109 (b:GB r){n0:List UInt8}{v0:Int}{k:Nat}(hk:e.kind=pW)(hn:e.names.getD []=[n0])(hv:e.values.getD []=[v0])(hp:z6 r.er n0=I k):
  nR (fG 172 r e) (apply (qe .i64) r.er e.er):=by
 have hR:apply (qe .i64) r.er e.er=ku r.er e.er:=by
  unfold apply
  rw[show e.er.kind=pW from hk,if_neg (by decide),if_pos (.inr (.inr rfl))]
 obtain⟨p,h1,_,h3⟩:=Fp hp
 rw[hR,NA (fk hn) hp h3,if_neg (by rw[hk];decide),if_neg (by rw[hk];decide)]
 have hA:fG 172 r e=qa (Jh e r.day r.lots r.ae r.units) fun v=>I (v.1,{ r with ae:=v.2 }):=rfl
 rw[hA]
 have hD:=b.D p (Gn h1)
 obtain⟨d',g1,g2⟩:=jq9 (d:=⟨p.dn,p.dt⟩) (jh hD.2.1) (jh hD.2.2.1)
 have g3:NB r.ae (k:Int)=I (I ((r.ae.getD []).set k { p with aM:=I (p.aM.getD []++[d']) })):=by
  unfold NB
  exact oD (jh b.P) h1 (by unfold NC;rw[g1];simp only[qa];rw[jr6 (nc hD.1)])
 have dN:({ r with ae:=I ((r.ae.getD []).set k { p with aM:=I (p.aM.getD []++[d']) }) }:aj).er=bK r.er k { p.er with aM:=p.er.aM++[p.er.bU] }:=by
  rw[Fq rfl]
  congr 1
  simp only[aS.er,Ey,G6,Gz,G2,g2]
  rfl
 have pi:p.er.aM.length=(p.aM.getD []).length:=by show((p.aM.getD []).map bL.er).length=_;rw[Gw]
 have hd:(p.dn.getD []).isEmpty=decide (((p.dn.getD []).length:Int)=0):=by
  cases p.dn.getD []with
  |nil=>rfl
  |cons x l=>simp;omega
 unfold Jh
 simp only[aj.eta,ig hn,qa,vR (jh b.P),hp,kc,jb h1,kI,g3,hd,pi]
 rw[jH (by simp[SM])]
 cases decide (((p.dn.getD []).length:Int)=0)with
 |true=>exact⟨_,_,rfl,rfl,by decide⟩
 |false=>
  by_cases h2:100≤(p.aM.getD []).length
  ·rw[show decide (100≤((p.aM.getD []).length:Int))=Gs from decide_eq_true (by omega),if_pos h2]
   exact⟨_,_,rfl,rfl,by decide⟩
  ·rw[show decide (100≤((p.aM.getD []).length:Int))=Gv from decide_eq_false (by omega),if_neg h2]
   exact⟨_,_,rfl,rfl,dN⟩
end Go.Z
namespace Go.Z
open Go Go.Abs Go.W
variable {r:aj}{e:GEv}
theorem kJ {k}(hk:e.kind=k)(h:¬(k=kH∨k=nL∨k=mR))(h2:¬(k=mQ∨k=nM∨k=pW)):apply (qe .i64) r.er e.er=if k=oB∨k=rX then pk r.er e.er else lF (qe .i64) r.er e.er:=by
 unfold apply
 rw[show e.er.kind=k from hk,if_neg h,if_neg h2]
theorem zfz (b:GB r){n0 v0 k}(hk:e.kind=oB)(hn:e.names.getD []=[n0])(hv:e.values.getD []=[v0])(hp:zt r.er n0=I k):
  nR (fG 178 r e) (apply (qe .i64) r.er e.er):=by
 rw[kJ hk (by decide) (by decide),if_pos (.inl rfl)]
 obtain⟨x,h1,_⟩:=Jb hp
 have hA:fG 178 r e=qa (Ji e r.day r.lots r.ae r.units) fun v=>I (v.1,{ r with lots:=v.2 }):=rfl
 rw[hA]
 have g1:XR r.lots (k:Int)=I (I ((r.lots.getD []).set k { x with held:=Gs })):=oD (jh b.L) h1 rfl
 unfold pk
 rw[fk hn,hp]
 simp only[xd,h1]
 rw[if_pos (show e.er.kind=oB from hk)]
 unfold Ji
 simp only[aj.eta,ig hn,qa,B6 (jh b.L),hp,kc,jb h1,g1]
 cases x.held with
 |true=>exact⟨_,_,rfl,rfl,by decide⟩
 |false=>exact⟨_,_,rfl,rfl,Nz rfl⟩
theorem zg5 (b:GB r){n0 v0 k}(hk:e.kind=rX)(hn:e.names.getD []=[n0])(hv:e.values.getD []=[v0])(hp:zt r.er n0=I k):
  nR (fG 179 r e) (apply (qe .i64) r.er e.er):=by
 rw[kJ hk (by decide) (by decide),if_pos (.inr rfl)]
 obtain⟨x,h1,_⟩:=Jb hp
 have hA:fG 179 r e=qa (Jj e r.day r.lots r.ae r.units) fun v=>I (v.1,{ r with lots:=v.2 }):=rfl
 rw[hA]
 have g1:XS r.lots (k:Int)=I (I ((r.lots.getD []).set k { x with held:=Gv })):=oD (jh b.L) h1 rfl
 unfold pk
 rw[fk hn,hp]
 simp only[xd,h1]
 rw[if_neg (show ¬e.er.kind=oB from fun h=>by rw[show e.er.kind=e.kind from rfl,hk]at h;exact absurd h (by decide))]
 unfold Jj
 simp only[aj.eta,ig hn,qa,B6 (jh b.L),hp,kc,jb h1,g1]
 cases x.held with
 |true=>exact⟨_,_,rfl,rfl,Nz rfl⟩
 |false=>exact⟨_,_,rfl,rfl,by decide⟩
structure UOk (r:aj)(u:ay)(D:bL)(v:Int):Prop where
 doc:pY r u=I D
 sd:pZ r u=I D
 xe:ky r.er u.er=I D.er
 new:nQ r.er u.er=I v
 aK:(D.aK.getD []).length≤BB
 az:(D.az.getD []).length≤BB
 uses:(u.uses.getD []).length≤BB
 results:(u.results.getD []).length≤BB
 lots:∀x∈u.uses.getD [],(zt r.er x.k).isSome=Gs
 keyed:zz (·.k) (u.uses.getD [])
 bG:u.version≠-1
theorem jfq {u:ay}{d}(h:ky r.er u.er=I d):∃(k:Nat) (p:aS),(r.ae.getD [])[k]?=I p∧1≤u.version∧∃D:bL,D∈p.aM.getD []∧D.er=d:=by
 unfold ky at h
 cases hp:ko r.er u.er.product with
 |none=>rw[hp]at h;cases h
 |some sp=>
  rw[hp]at h
  obtain⟨k,p,_,h2,rfl,_⟩:=XF hp
  simp only[Option.bind_some,B8]at h
  split at h
  ·rename_i hv
   refine⟨k,p,h2,hv,?_⟩
   have h3:((p.aM.getD []).map bL.er)[(u.er.version-1).toNat]?=I d:=h
   rw[Gy]at h3
   cases hD:(p.aM.getD [])[(u.er.version-1).toNat]? with
   |none=>rw[hD]at h3;cases h3
   |some D=>rw[hD]at h3;exact⟨D,Gn hD,by simpa using h3⟩
  ·cases h
theorem Co (b:GB r)(w:WF r.er){i:Nat}{u}(hu:(r.units.getD [])[i]?=I u):∃D v,UOk r u D v:=by
 have hm:=Gn hu
 have XT:u.er∈r.er.units:=by rw[mX];exact Hb hm
 obtain⟨d,hd⟩:=Gt.1 (w.ep _ XT)
 obtain⟨D,g1,g2,rfl⟩:=ju0 (jh b.P) (fun p hp=>jh (b.D p hp).1) hd
 obtain⟨k,p,hp,hv,D',oE,he⟩:=jfq hd
 have hb:=(b.D p (Gn hp)).2.2.2 D' oE
 have h1:D.aK.getD []=D'.aK.getD []:=congrArg jS.aK he.symm
 have h2:D.az.getD []=D'.az.getD []:=congrArg jS.az he.symm
 have dw:(nQ r.er u.er).isSome=Gs:=by
  unfold nQ
  unfold ky at hd
  cases hq:ko r.er u.er.product with
  |none=>rw[hq]at hd;cases hd
  |some sp=>rfl
 obtain⟨v,VY⟩:=Gt.1 dw
 exact⟨D,v,g1,g2,hd,VY,by rw[h1];exact hb.1,by rw[h2];exact hb.2,(b.N u hm).1,(b.N u hm).2,(w.uses _ XT).2,(w.uses _ XT).1,by omega⟩
theorem xf {n0:List UInt8}{k:Nat}{u:ay}(hn:nm e.er 0=n0)(hp:zp r.er n0=I k)(h3:r.er.units[k]?=I u.er):lF (qe .i64) r.er e.er =
   if e.kind=mS then qC (qe .i64) r.er k u.er e.er
   else if e.kind=nO then qD r.er k u.er e.er
   else if e.kind=pg then
    (if u.shipped then .error 21 else if !((ky r.er u.er).any fun d=>d.az.any (eP (nm e.er 1)))then .error 7 else if 64≤(u.results.getD []).length then .error 5 else
     .ok (av r.er k { u.er with results:=u.results.getD []++[⟨nm e.er 1,u.version,vl e.er 1⟩] }))
   else if e.kind=pX then
    (if u.shipped then .error 21 else match nQ r.er u.er with
     |none=>.error 32
     |some v=>if u.version=v then .error 32 else .ok (av r.er k { u.er with version:=v }))
   else if e.kind=kw then(if lE (qe .i64) r.er u.er≠0 then .error (lE (qe .i64) r.er u.er)else .ok (av r.er k { u.er with shipped:=Gs }))
   else(if !u.shipped then .error 20 else .ok (av r.er k { u.er with ai:=qe .i64 (u.ai+1) })):=by
 unfold lF
 rw[hn,hp]
 simp only[h3]
 rfl
theorem zkk (b:GB r)(w:WF r.er){n0:List UInt8}{v0:Int}{k:Nat}(hk:e.kind=pX)(hn:e.names.getD []=[n0])(hv:e.values.getD []=[v0])(hp:zp r.er n0=I k):
  nR (fG 176 r e) (apply (qe .i64) r.er e.er):=by
 rw[kJ hk (by decide) (by decide),if_neg (by decide)]
 obtain⟨u,h1,_,h3⟩:=qB hp
 obtain⟨D,v,o⟩:=Co b w h1
 rw[xf (fk hn) hp h3,if_neg (by rw[hk];decide),if_neg (by rw[hk];decide),if_neg (by rw[hk];decide),if_pos hk,o.new]
 have hA:fG 176 r e=qa (Jk e r.day r.lots r.ae r.units) fun v=>I (v.1,{ r with units:=v.2 }):=rfl
 rw[hA]
 have g1:XU r.units (k:Int) v=I (I ((r.units.getD []).set k { u with version:=v })):=oD (jh b.U) h1 rfl
 generalize hU:({ u with version:=v }:ay)=U' at g1
 have dN:({ r with units:=I ((r.units.getD []).set k U') }:aj).er=av r.er k { u.er with version:=v }:=by rw[zX rfl,←hU];rfl
 unfold Jk
 simp only[aj.eta,ig hn,qa,wY (jh b.U),hp,kc,jb h1,(Nj (jh b.P) o.new).1,kI,g1]
 rw[jH (by simp[SM])]
 cases u.shipped with
 |true=>exact⟨_,_,rfl,rfl,by decide⟩
 |false=>
  by_cases h:u.version=v
  ·rw[decide_eq_true h,if_pos h];exact⟨_,_,rfl,rfl,by decide⟩
  ·rw[decide_eq_false h,if_neg h];exact⟨_,_,rfl,rfl,dN⟩
theorem zkj (b:GB r)(w:WF r.er){n0:List UInt8}{v0:Int}{k:Nat}(hk:e.kind=kw)(hn:e.names.getD []=[n0])(hv:e.values.getD []=[v0])(hp:zp r.er n0=I k):
  nR (fG 180 r e) (apply (qe .i64) r.er e.er):=by
 rw[kJ hk (by decide) (by decide),if_neg (by decide)]
 obtain⟨u,h1,_,h3⟩:=qB hp
 obtain⟨D,v,o⟩:=Co b w h1
 rw[xf (fk hn) hp h3,if_neg (by rw[hk];decide),if_neg (by rw[hk];decide),if_neg (by rw[hk];decide),if_neg (by rw[hk];decide),if_pos hk]
 have hA:fG 180 r e=qa (Jl e r.day r.lots r.ae r.units) fun v=>I (v.1,{ r with units:=v.2 }):=rfl
 rw[hA]
 have g1:XV r.units (k:Int)=I (I ((r.units.getD []).set k { u with shipped:=Gs })):=oD (jh b.U) h1 rfl
 have g2:=jha (jh b.P) o.new (jh b.L) (jh o.uses) o.lots o.doc o.xe (jh o.aK) (jh o.results) (jh o.az) o.bG
 unfold Jl
 simp only[aj.eta,ig hn,qa,wY (jh b.U),hp,kc,jb h1,g2,g1]
 by_cases h:lE (qe .i64) r.er u.er=0
 ·rw[decide_eq_true h,if_neg (fun hh=>hh h)];exact⟨_,_,rfl,rfl,zX rfl⟩
 ·rw[decide_eq_false h,if_pos h];exact⟨_,_,rfl,rfl,h⟩
theorem zcq (b:GB r){n0:List UInt8}{v0:Int}{k:Nat}(hk:e.kind=zQ)(hn:e.names.getD []=[n0])(hv:e.values.getD []=[v0])(hp:zp r.er n0=I k):
  nR (fG 181 r e) (apply (qe .i64) r.er e.er):=by
 rw[kJ hk (by decide) (by decide),if_neg (by decide)]
 obtain⟨u,h1,_,h3⟩:=qB hp
 rw[xf (fk hn) hp h3,if_neg (by rw[hk];decide),if_neg (by rw[hk];decide),if_neg (by rw[hk];decide),if_neg (by rw[hk];decide),if_neg (by rw[hk];decide)]
 have hA:fG 181 r e=qa (Jm e r.day r.lots r.ae r.units) fun v=>I (v.1,{ r with units:=v.2 }):=rfl
 rw[hA]
 have g1:XW r.units (k:Int)=I (I ((r.units.getD []).set k { u with ai:=qe .i64 (u.ai+1) })):=oD (jh b.U) h1 rfl
 generalize hU:({ u with ai:=qe .i64 (u.ai+1) }:ay)=U' at g1
 have dN:({ r with units:=I ((r.units.getD []).set k U') }:aj).er=av r.er k { u.er with ai:=qe .i64 (u.ai+1) }:=by rw[zX rfl,←hU];rfl
 unfold Jm
 simp only[aj.eta,ig hn,qa,wY (jh b.U),hp,kc,jb h1,g1]
 cases u.shipped with
 |true=>exact⟨_,_,rfl,rfl,dN⟩
 |false=>exact⟨_,_,rfl,rfl,by decide⟩
theorem ze4 (b:GB r)(w:WF r.er){n0 n1:List UInt8}{v0 v1:Int}{k:Nat}(hk:e.kind=pg)(hn:e.names.getD []=[n0,n1])(hv:e.values.getD []=[v0,v1])(hp:zp r.er n0=I k):
  nR (fG 175 r e) (apply (qe .i64) r.er e.er):=by
 rw[kJ hk (by decide) (by decide),if_neg (by decide)]
 obtain⟨u,h1,_,h3⟩:=qB hp
 obtain⟨D,v,o⟩:=Co b w h1
 rw[xf (fk hn) hp h3,if_neg (by rw[hk];decide),if_neg (by rw[hk];decide),if_pos hk,l5 hn,vT hv,o.xe]
 have hA:fG 175 r e=qa (Jn e r.day r.lots r.ae r.units) fun v=>I (v.1,{ r with units:=v.2 }):=rfl
 rw[hA]
 have g1:XX r.units (k:Int) e=I (I ((r.units.getD []).set k { u with results:=I (u.results.getD []++[⟨n1,u.version,v1⟩]) })):=oD (jh b.U) h1 (by
  unfold ND
  rw[gU hn,gU hv]
  simp only[qa]
  rw[jq6 (nc o.results)])
 generalize hU:({ u with results:=I (u.results.getD []++[⟨n1,u.version,v1⟩]) }:ay)=U' at g1
 have dN:({ r with units:=I ((r.units.getD []).set k U') }:aj).er=av r.er k { u.er with results:=u.results.getD []++[⟨n1,u.version,v1⟩] }:=by rw[zX rfl,←hU];rfl
 unfold Jn
 simp only[aj.eta,ig hn,qa,wY (jh b.U),hp,kc,jb h1,o.doc,jnx (gU hn) (jh o.az),kI,g1,Hd]
 rw[jH (by simp[SM]),show D.er.az=D.az.getD []from rfl]
 cases u.shipped with
 |true=>exact⟨_,_,rfl,rfl,by decide⟩
 |false=>
  cases (D.az.getD []).any (eP n1)with
  |false=>exact⟨_,_,rfl,rfl,by decide⟩
  |true=>
   by_cases h2:64≤(u.results.getD []).length
   ·rw[show decide (64≤((u.results.getD []).length:Int))=Gs from decide_eq_true (by omega),if_pos h2]
    exact⟨_,_,rfl,rfl,by decide⟩
   ·rw[show decide (64≤((u.results.getD []).length:Int))=Gv from decide_eq_false (by omega),if_neg h2]
    exact⟨_,_,rfl,rfl,dN⟩
theorem zg3 (b:GB r)(w:WF r.er){n0 n1:List UInt8}{v0 v1:Int}{k j:Nat}(hk:e.kind=mS)(hn:e.names.getD []=[n0,n1])(hv:e.values.getD []=[v0,v1])(hp:zp r.er n0=I k)(hq:zt r.er n1=I j):
  nR (fG 174 r e) (apply (qe .i64) r.er e.er):=by
 rw[kJ hk (by decide) (by decide),if_neg (by decide)]
 obtain⟨u,h1,_,h3⟩:=qB hp
 obtain⟨x,h4,EV⟩:=Jb hq
 obtain⟨D,v,o⟩:=Co b w h1
 rw[xf (fk hn) hp h3,if_pos hk]
 unfold qC
 rw[l5 hn,hq,vT hv,o.xe]
 simp only[xd,h4]
 have hA:fG 174 r e=qa (Jo e r.day r.lots r.ae r.units) fun v=>I (v.1,{ r with lots:=v.2.1,units:=v.2.2 }):=rfl
 rw[hA]
 have g1:XY r.lots (j:Int) v1=I (I ((r.lots.getD []).set j { x with left:=qe .i64 (x.left-v1) })):=oD (jh b.L) h4 rfl
 unfold Jo
 simp only[aj.eta,ig hn,gU hn,gU hv,qa,wY (jh b.U),B6 (jh b.L),hp,hq,kc,jb h1,jb h4,o.doc,jnk (jh o.aK),kI,g1,jsd (jh o.uses),Hd]
 rw[jH (by simp[SM])]
 have hdn:D.er.aK=D.aK.getD []:=rfl
 simp only[hdn]
 have l3:∀(s:bq),jT (qe .i64) (u.uses.getD []) x.name v1=kg (di x.name) s (u.uses.getD [])→∃us,gD r.units (k:Int) (Ft s x)=I us∧({ r with lots:=I ((r.lots.getD []).set j { x with left:=qe .i64 (x.left-v1) }),units:=us }:aj).er=av (cj r.er j { x with left:=qe .i64 (x.left-v1) }) k { u.er with uses:=jT (qe .i64) u.er.uses x.name v1 }:=by
  intro s hs
  obtain⟨q,wq,q1,q2⟩:=jpg (x:=s) (t:=x) (o:=u.uses) (nc o.uses)
  refine⟨_,oD (y:={ u with uses:=q }) (jh b.U) h1 (by unfold Ft;rw[q1];rfl),?_⟩
  simp only[aj.er,av,cj,Ey,G5]
  congr 2
  simp only[ay.er,q2,hs]
 by_cases hs:u.shipped=Gs
 ·simp only[if_pos hs,if_pos (show u.er.shipped=Gs from hs)]
  exact⟨_,_,rfl,rfl,by decide⟩
 simp only[if_neg hs,if_neg (show ¬u.er.shipped=Gs from hs)]
 by_cases hz:v1=0
 ·simp only[if_pos hz,decide_eq_true hz,if_true]
  exact⟨_,_,rfl,rfl,by decide⟩
 simp only[if_neg hz,decide_eq_false hz,En,if_false]
 by_cases hh:x.held=Gs
 ·simp only[if_pos hh]
  exact⟨_,_,rfl,rfl,by decide⟩
 simp only[if_neg hh]
 cases (D.aK.getD []).any (di x.kind)with
 |false=>exact⟨_,_,rfl,rfl,by decide⟩
 |true=>
 simp only[G0,En,if_false]
 by_cases hl:x.left<v1
 ·simp only[if_pos hl,decide_eq_true hl,if_true]
  exact⟨_,_,rfl,rfl,by decide⟩
 simp only[if_neg hl,decide_eq_false hl,En,if_false]
 have Jp:∀ {α:Type} (A B:Option α),cond (decide (ie [0,0,0,0,0]=0)) A B=A:=fun A B=>rfl
 cases hi:(u.uses.getD []).findIdx? (di x.name)with
 |none=>
  obtain⟨us,q1,q2⟩:=l3 ⟨x.name,v1⟩ (by unfold jT kg;rw[hi])
  rw[Jp]
  rw[show decide (0≤eG none)=Gv from rfl]
  simp only[cond_false,q1]
  exact⟨_,_,rfl,rfl,q2⟩
 |some i=>
  obtain⟨y,hy,_⟩:=bg hi
  obtain⟨us,q1,q2⟩:=l3 ⟨x.name,qe .i64 (v1+y.n)⟩ (by unfold jT kg;rw[hi];simp only[hy])
  rw[Jp]
  rw[show decide (0≤eG (I i))=Gs from xa (I i)]
  simp only[cond_true,kc,jb hy,q1]
  exact⟨_,_,rfl,rfl,q2⟩
end Go.Z
set_option maxHeartbeats 4000000
namespace Go.Z
open Go Go.Abs Go.W
variable {r:aj}{e:GEv}
theorem j5y {a b c d}:f46 (I [a,b,c,d])=I (ie [a,b,c,d]):=jH (by simp[SM])
theorem zdl (b:GB r){n0 n1 v0 k j}(hk:e.kind=nO)(hn:e.names.getD []=[n0,n1])(hv:e.values.getD []=[v0])(hp:zp r.er n0=I k)(hq:zp r.er n1=I j):
  nR (fG 177 r e) (apply (qe .i64) r.er e.er):=by
 rw[kJ hk (by decide) (by decide),if_neg (by decide)]
 obtain⟨u,h1,_,h3⟩:=qB hp
 obtain⟨v,h4,_,h5⟩:=qB hq
 rw[xf (fk hn) hp h3,if_neg (by rw[hk];decide),if_pos hk]
 unfold qD
 rw[l5 hn,hq]
 simp only[h5]
 have hA:fG 177 r e=qa (Jq e r.day r.lots r.ae r.units) fun v=>I (v.1,{ r with units:=v.2 }):=rfl
 rw[hA]
 have g1:vU r.units (k:Int) v=I (I ((r.units.getD []).set k { u with partner:=v.name })):=oD (jh b.U) h1 rfl
 have g2:k≠j→∀bb,vV (I ((r.units.getD []).set k { u with partner:=v.name })) (j:Int) ⟨u.name,u.product,u.version,u.uses,u.results,u.partner,bb,u.ai⟩=I (I (((r.units.getD []).set k { u with partner:=v.name }).set j { v with partner:=u.name })):=by
  intro hkj bb
  exact oD (x:=v) (by rw[Ey,List.length_set];exact jh b.U) (by rw[Ey,List.getElem?_set_ne hkj];exact h4) rfl
 have dN:({ r with units:=I (((r.units.getD []).set k { u with partner:=v.name }).set j { v with partner:=u.name }) }:aj).er=av (av r.er k { u.er with partner:=v.er.name }) j { v.er with partner:=u.er.name }:=by
  simp only[aj.er,av,Ey,G5]
  rfl
 generalize hz:av (av r.er k { u.er with partner:=v.er.name }) j { v.er with partner:=u.er.name }=Z at dN ⊢
 generalize hX:I (I (((r.units.getD []).set k { u with partner:=v.name }).set j { v with partner:=u.name }))=X at g2
 generalize hY:I ((r.units.getD []).set k { u with partner:=v.name })=Y at g1 g2
 unfold Jq
 simp only[aj.eta,ig hn,gU hn,qa,wY (jh b.U),hp,hq,kc,jb h1,jb h4,kI,j5y,g1]
 have e1:decide ((k:Int)=(j:Int))=decide (k=j):=by
  by_cases h:k=j
  ·rw[decide_eq_true h];exact decide_eq_true (by omega)
  ·rw[decide_eq_false h];exact decide_eq_false (by omega)
 have e2:u.er.product=u.product:=rfl
 have e3:v.er.product=v.product:=rfl
 have e4:u.er.version=u.version:=rfl
 have e5:v.er.version=v.version:=rfl
 have e6:u.er.shipped=u.shipped:=rfl
 have e7:v.er.shipped=v.shipped:=rfl
 have e8:u.er.partner=u.partner:=rfl
 have e9:v.er.partner=v.partner:=rfl
 simp only[e1,e2,e3,e4,e5,e6,e7,e8,e9]
 by_cases c1:k=j<;>by_cases c2:u.product=v.product<;>by_cases dj:u.version=v.version<;>cases fm:u.shipped<;>cases dA:v.shipped<;>by_cases en:u.partner=[]<;>by_cases nf:v.partner=[] <;>
  simp only[c1,c2,dj,en,nf,decide_true,decide_false,cond_true,cond_false,G0,Ha,if_true,if_false,En,ne_eq,not_true_eq_false,not_false_eq_true,or_true,true_or,or_false,false_or,or_self] <;>
  first
  |exact⟨_,_,rfl,rfl,by decide⟩
  |(have g3:=g2 c1 Gv
    simp only[c2,dj,en]at g3
    rw[g3,←hX]
    exact⟨_,_,rfl,rfl,dN⟩)
end Go.Z
namespace Go.Z
open Go Go.Abs Go.W
variable {r:aj}{e:GEv}
def Fu (r:ju)(c:Int)(n:List UInt8):Bool:=if c=108 then(zt r n).isSome else if c=112 then(z6 r n).isSome else if c=117 then(zp r n).isSome else Gs
theorem XZ (b:GB r){c n}:Fv r c n=I (Fu r.er c n):=by
 unfold Fv Fu
 by_cases h1:c=108
 ·simp only[h1,decide_true,cond_true,if_true,B6 (jh b.L),qa,xb]
 ·by_cases h2:c=112
  ·simp only[h1,h2,decide_true,decide_false,cond_true,cond_false,if_true,if_false,vR (jh b.P),qa,xb];rfl
  ·by_cases h3:c=117
   ·simp only[h1,h2,h3,decide_true,decide_false,cond_true,cond_false,if_true,if_false,wY (jh b.U),qa,xb];rfl
   ·simp only[h1,h2,h3,decide_false,cond_false,if_false]
def ke (r:ju)(c:UInt8)(n:List UInt8):Bool:=decide ((c.toNat:Int)=45)||Fu r (c.toNat:Int) n
theorem Cp (b:GB r){a n0 t}(hr:zc e.kind=[a])(hd:ql [a] 0=(a.toNat,1))(hn:e.names.getD []=n0::t):
  ∃d,bm (Fw r e) none=I (if ke r.er a n0 then .inr d else .inl d):=by
 have z:Cq r e=I (if ke r.er a n0 then .inl (I 1)else .inr (.inl 1)):=by
  unfold Cq ke
  simp only[hr,hd,qa,ig hn,XZ b]
  simp only[G9,Nat.lt_irrefl,show decide (0<1)=Gs from rfl,cond_true]
  cases decide ((a.toNat:Int)=45)<;>cases Fu r.er (a.toNat:Int) n0<;>rfl
 cases hk:ke r.er a n0 with
 |true=>
  rw[hk]at z
  refine⟨1,?_⟩
  rw[oA (s':=I 1) z]
  refine ki (d:=(Sum.inr 1:Nat⊕Nat)) ?_
  show xg r e 1=_
  unfold xg
  simp only[hr,G9]
  rfl
 |false=>
  rw[hk]at z
  exact⟨1,ki z⟩
theorem Cr (b:GB r){a c n0 n1 t}(hr:zc e.kind=[a,c])(hd:ql [a,c] 0=(a.toNat,1))(hd1:ql [a,c] 1=(c.toNat,1))(hn:e.names.getD []=n0::n1::t):
  ∃d,bm (Fw r e) none=I (if ke r.er a n0&&ke r.er c n1 then .inr d else .inl d):=by
 have z:Cq r e=I (if ke r.er a n0 then .inl (I 1)else .inr (.inl 1)):=by
  unfold Cq ke
  simp only[hr,hd,qa,ig hn,XZ b]
  simp only[G1,G7,show decide (0<0+1+1)=Gs from rfl,cond_true]
  cases decide ((a.toNat:Int)=45)<;>cases Fu r.er (a.toNat:Int) n0<;>rfl
 have y:xg r e 1=I (if ke r.er c n1 then .inl (I 2)else .inr (.inl 2)):=by
  unfold xg ke
  simp only[hr,hd1,qa,show((1:Nat):Int)=1 from rfl,gU hn,XZ b]
  simp only[G1,G7,show decide (1<0+1+1)=Gs from rfl,cond_true]
  cases decide ((c.toNat:Int)=45)<;>cases Fu r.er (c.toNat:Int) n1<;>rfl
 cases hk:ke r.er a n0 with
 |false=>
  rw[hk]at z
  exact⟨1,ki z⟩
 |true=>
  rw[hk]at z
  cases dz:ke r.er c n1 with
  |false=>
   rw[dz]at y
   refine⟨2,?_⟩
   rw[oA (s':=I 1) z]
   exact ki (d:=(Sum.inl 2:Nat⊕Nat)) y
  |true=>
   rw[dz]at y
   refine⟨2,?_⟩
   rw[oA (s':=I 1) z,oA (s':=I 2) y]
   refine ki (d:=(Sum.inr 2:Nat⊕Nat)) ?_
   show xg r e 2=_
   unfold xg
   simp only[hr,G1,G7]
   rfl
def gV (x:Option (aj×Int))(y:qA):Prop:=∃r' c,x=I (r',c)∧match y with
 | .error k=>c=k∧k≠0
 | .ok s=>c=0∧r'.er=s
theorem oF {v0 t K}(hv:e.values.getD []=v0::t)(hl:∃d,bm (Fw r e) none=I (if K then .inr d else .inl d))(hK:K=Gv→apply (qe .i64) r.er e.er=.error 10)(hA:K=Gs→nR (fG (Jr e.kind) r e) (apply (qe .i64) r.er e.er)):
  gV (jU r e) (after (qe .i64) r.er e.er):=by
 unfold jU after
 rw[ig hv,vl0 hv]
 simp only[qa]
 by_cases h:v0<r.day
 ·rw[decide_eq_true h,if_pos (show v0<r.er.day from h)]
  exact⟨_,_,rfl,rfl,by decide⟩
 ·rw[decide_eq_false h,if_neg (show ¬v0<r.er.day from h)]
  obtain⟨d,hd⟩:=hl
  rw[hd]
  cases K with
  |false=>
   rw[hK rfl]
   exact⟨_,_,rfl,rfl,by decide⟩
  |true=>
   obtain⟨c,r',h1,h2⟩:=hA rfl
   simp only[if_true,cond_false]
   rw[h1]
   simp only[]
   cases ha:apply (qe .i64) r.er e.er with
   |error k=>
    rw[ha]at h2
    obtain⟨rfl,h3⟩:=h2
    rw[decide_eq_false h3]
    exact⟨_,_,rfl,rfl,h3⟩
   |ok s=>
    rw[ha]at h2
    obtain⟨rfl,rfl⟩:=h2
    exact⟨_,_,rfl,rfl,rfl⟩
theorem oG {α:Type}{o:Option α}(h:o.isSome=Gs):∃x,o=I x:=Gt.1 h
theorem qE {α:Type}{o:Option α}(h:o.isSome=Gv):o=none:=by cases o<;>simp at h ⊢
theorem km {k a c}(hk:e.kind=k)(hf:yt k=I (a,c))(hc:zf e.er=0):(e.names.getD []).length=a∧(e.values.getD []).length=c:=by
 obtain⟨_,f,h1,h2,h3⟩:=Js hc
 rw[show e.er.kind=k from hk,hf]at h1
 cases h1
 exact⟨h2,h3⟩
theorem jI {α:Type}{l:List α}(h:l.length=1):∃a,l=[a]:=List.length_eq_one_iff.1 h
theorem gW {α:Type}{l:List α}(h:l.length=2):∃a b,l=[a,b]:=by
 match l,h with
 | [a,b],_=>exact⟨a,b,rfl⟩
theorem jxo {α:Type}{l:List α}(h:l.length=3):∃a b c,l=[a,b,c]:=by
 match l,h with
 | [a,b,c],_=>exact⟨a,b,c,rfl⟩
theorem oH {r n}:ke r 45 n=Gs:=rfl
theorem rl {r n}:ke r 108 n=(zt r n).isSome:=rfl
theorem rp {r n}:ke r 112 n=(z6 r n).isSome:=rfl
theorem ru {r n}:ke r 117 n=(zp r n).isSome:=rfl
theorem jvj (b:GB r)(hk:e.kind=kH)(hc:zf e.er=0):gV (jU r e) (after (qe .i64) r.er e.er):=by
 obtain⟨h1,h2⟩:=km hk (show yt kH=I (2,2)from rfl) hc
 obtain⟨n0,n1,hn⟩:=gW h1
 obtain⟨v0,v1,hv⟩:=gW h2
 refine oF (K:=true) hv (by have:=Cr (a:=45) (c:=45) b (by rw[hk];rfl) rfl rfl hn;simpa[oH]using this) (fun h=>by cases h) (fun _=>?_)
 rw[hk]
 exact a105 b hk hn hv
theorem jc6 (b:GB r)(hk:e.kind=nL)(hc:zf e.er=0):gV (jU r e) (after (qe .i64) r.er e.er):=by
 obtain⟨h1,h2⟩:=km hk (show yt nL=I (1,1)from rfl) hc
 obtain⟨n0,hn⟩:=jI h1
 obtain⟨v0,hv⟩:=jI h2
 refine oF (K:=true) hv (by have:=Cp (a:=45) b (by rw[hk];rfl) rfl hn;simpa[oH]using this) (fun h=>by cases h) (fun _=>?_)
 rw[hk]
 exact zfc b hk hn hv
theorem jp7 (b:GB r)(hk:e.kind=mQ)(hc:zf e.er=0):gV (jU r e) (after (qe .i64) r.er e.er):=by
 obtain⟨h1,h2⟩:=km hk (show yt mQ=I (2,2)from rfl) hc
 obtain⟨n0,n1,hn⟩:=gW h1
 obtain⟨v0,v1,hv⟩:=gW h2
 refine oF (K:=(z6 r.er n0).isSome) hv (by have:=Cr (a:=112) (c:=45) b (by rw[hk];rfl) rfl rfl hn;rw[show(ke r.er 112 n0&&ke r.er 45 n1)=((z6 r.er n0).isSome)from by simp only[oH,rl,rp,ru,Gp,Gq]]at this;exact this) (fun h=>?_) (fun h=>?_)
 ·have h:=qE h
  unfold apply ku
  rw[show e.er.kind=mQ from hk,if_neg (by decide),if_pos (by decide),fk hn,h]
 ·obtain⟨k,hp⟩:=oG h
  rw[hk]
  exact zlh b hk hn hv hp
theorem jr4 (b:GB r)(hk:e.kind=nM)(hc:zf e.er=0):gV (jU r e) (after (qe .i64) r.er e.er):=by
 obtain⟨h1,h2⟩:=km hk (show yt nM=I (2,3)from rfl) hc
 obtain⟨n0,n1,hn⟩:=gW h1
 obtain⟨v0,v1,v2,hv⟩:=jxo h2
 refine oF (K:=(z6 r.er n0).isSome) hv (by have:=Cr (a:=112) (c:=45) b (by rw[hk];rfl) rfl rfl hn;rw[show(ke r.er 112 n0&&ke r.er 45 n1)=((z6 r.er n0).isSome)from by simp only[oH,rl,rp,ru,Gp,Gq]]at this;exact this) (fun h=>?_) (fun h=>?_)
 ·have h:=qE h
  unfold apply ku
  rw[show e.er.kind=nM from hk,if_neg (by decide),if_pos (by decide),fk hn,h]
 ·obtain⟨k,hp⟩:=oG h
  rw[hk]
  exact zdh b hk hn hv hp
theorem jjo (b:GB r)(hk:e.kind=pW)(hc:zf e.er=0):gV (jU r e) (after (qe .i64) r.er e.er):=by
 obtain⟨h1,h2⟩:=km hk (show yt pW=I (1,1)from rfl) hc
 obtain⟨n0,hn⟩:=jI h1
 obtain⟨v0,hv⟩:=jI h2
 refine oF (K:=(z6 r.er n0).isSome) hv (by have:=Cp (a:=112)  b (by rw[hk];rfl) rfl hn;rw[show(ke r.er 112 n0)=((z6 r.er n0).isSome)from by simp only[oH,rl,rp,ru,Gp,Gq]]at this;exact this) (fun h=>?_) (fun h=>?_)
 ·have h:=qE h
  unfold apply ku
  rw[show e.er.kind=pW from hk,if_neg (by decide),if_pos (by decide),fk hn,h]
 ·obtain⟨k,hp⟩:=oG h
  rw[hk]
  exact a109 b hk hn hv hp
theorem jk8 (b:GB r)(hk:e.kind=mR)(hc:zf e.er=0):gV (jU r e) (after (qe .i64) r.er e.er):=by
 obtain⟨h1,h2⟩:=km hk (show yt mR=I (2,1)from rfl) hc
 obtain⟨n0,n1,hn⟩:=gW h1
 obtain⟨v0,hv⟩:=jI h2
 refine oF (K:=(z6 r.er n1).isSome) hv (by have:=Cr (a:=45) (c:=112) b (by rw[hk];rfl) rfl rfl hn;rw[show(ke r.er 45 n0&&ke r.er 112 n1)=((z6 r.er n1).isSome)from by simp only[oH,rl,rp,ru,Gp,Gq]]at this;exact this) (fun h=>?_) (fun h=>?_)
 ·have h:=qE h
  unfold apply l6
  rw[show e.er.kind=mR from hk,if_pos (by decide),if_neg (by decide),if_neg (by decide),l5 hn]
  unfold ko
  rw[h];rfl
 ·obtain⟨k,hp⟩:=oG h
  rw[hk]
  exact zd2 b hk hn hv hp
theorem jwv (b:GB r)(w:WF r.er)(hk:e.kind=mS)(hc:zf e.er=0):gV (jU r e) (after (qe .i64) r.er e.er):=by
 obtain⟨h1,h2⟩:=km hk (show yt mS=I (2,2)from rfl) hc
 obtain⟨n0,n1,hn⟩:=gW h1
 obtain⟨v0,v1,hv⟩:=gW h2
 refine oF (K:=(zp r.er n0).isSome&&(zt r.er n1).isSome) hv (by have:=Cr (a:=117) (c:=108) b (by rw[hk];rfl) rfl rfl hn;rw[show(ke r.er 117 n0&&ke r.er 108 n1)=((zp r.er n0).isSome&&(zt r.er n1).isSome)from by simp only[oH,rl,rp,ru,Gp,Gq]]at this;exact this) (fun h=>?_) (fun h=>?_)
 ·cases h1:zp r.er n0 with
  |none=>
   rw[kJ hk (by decide) (by decide),if_neg (by decide)]
   unfold lF
   rw[fk hn,h1]
  |some k=>
   rw[h1]at h
   have h:=qE (show(zt r.er n1).isSome=Gv from h)
   obtain⟨u,g1,_,g3⟩:=qB h1
   rw[kJ hk (by decide) (by decide),if_neg (by decide),xf (fk hn) h1 g3,if_pos hk]
   unfold qC
   rw[l5 hn,h]
 ·rw[Hc]at h
  obtain⟨k,hp⟩:=oG h.1
  obtain⟨j,hq⟩:=oG h.2
  rw[hk]
  exact zg3 b w hk hn hv hp hq
theorem jau (b:GB r)(w:WF r.er)(hk:e.kind=pg)(hc:zf e.er=0):gV (jU r e) (after (qe .i64) r.er e.er):=by
 obtain⟨h1,h2⟩:=km hk (show yt pg=I (2,2)from rfl) hc
 obtain⟨n0,n1,hn⟩:=gW h1
 obtain⟨v0,v1,hv⟩:=gW h2
 refine oF (K:=(zp r.er n0).isSome) hv (by have:=Cr (a:=117) (c:=45) b (by rw[hk];rfl) rfl rfl hn;rw[show(ke r.er 117 n0&&ke r.er 45 n1)=((zp r.er n0).isSome)from by simp only[oH,rl,rp,ru,Gp,Gq]]at this;exact this) (fun h=>?_) (fun h=>?_)
 ·have h:=qE h
  rw[kJ hk (by decide) (by decide),if_neg (by decide)]
  unfold lF
  rw[fk hn,h]
 ·obtain⟨k,hp⟩:=oG h
  rw[hk]
  exact ze4 b w hk hn hv hp
theorem jer (b:GB r)(w:WF r.er)(hk:e.kind=pX)(hc:zf e.er=0):gV (jU r e) (after (qe .i64) r.er e.er):=by
 obtain⟨h1,h2⟩:=km hk (show yt pX=I (1,1)from rfl) hc
 obtain⟨n0,hn⟩:=jI h1
 obtain⟨v0,hv⟩:=jI h2
 refine oF (K:=(zp r.er n0).isSome) hv (by have:=Cp (a:=117)  b (by rw[hk];rfl) rfl hn;rw[show(ke r.er 117 n0)=((zp r.er n0).isSome)from by simp only[oH,rl,rp,ru,Gp,Gq]]at this;exact this) (fun h=>?_) (fun h=>?_)
 ·have h:=qE h
  rw[kJ hk (by decide) (by decide),if_neg (by decide)]
  unfold lF
  rw[fk hn,h]
 ·obtain⟨k,hp⟩:=oG h
  rw[hk]
  exact zkk b w hk hn hv hp
theorem jrm (b:GB r)(hk:e.kind=nO)(hc:zf e.er=0):gV (jU r e) (after (qe .i64) r.er e.er):=by
 obtain⟨h1,h2⟩:=km hk (show yt nO=I (2,1)from rfl) hc
 obtain⟨n0,n1,hn⟩:=gW h1
 obtain⟨v0,hv⟩:=jI h2
 refine oF (K:=(zp r.er n0).isSome&&(zp r.er n1).isSome) hv (by have:=Cr (a:=117) (c:=117) b (by rw[hk];rfl) rfl rfl hn;rw[show(ke r.er 117 n0&&ke r.er 117 n1)=((zp r.er n0).isSome&&(zp r.er n1).isSome)from by simp only[oH,rl,rp,ru,Gp,Gq]]at this;exact this) (fun h=>?_) (fun h=>?_)
 ·cases h1:zp r.er n0 with
  |none=>
   rw[kJ hk (by decide) (by decide),if_neg (by decide)]
   unfold lF
   rw[fk hn,h1]
  |some k=>
   rw[h1]at h
   have h:=qE (show(zp r.er n1).isSome=Gv from h)
   obtain⟨u,g1,_,g3⟩:=qB h1
   rw[kJ hk (by decide) (by decide),if_neg (by decide),xf (fk hn) h1 g3,if_neg (by rw[hk];decide),if_pos hk]
   unfold qD
   rw[l5 hn,h]
 ·rw[Hc]at h
  obtain⟨k,hp⟩:=oG h.1
  obtain⟨j,hq⟩:=oG h.2
  rw[hk]
  exact zdl b hk hn hv hp hq
theorem jq3 (b:GB r)(hk:e.kind=oB)(hc:zf e.er=0):gV (jU r e) (after (qe .i64) r.er e.er):=by
 obtain⟨h1,h2⟩:=km hk (show yt oB=I (1,1)from rfl) hc
 obtain⟨n0,hn⟩:=jI h1
 obtain⟨v0,hv⟩:=jI h2
 refine oF (K:=(zt r.er n0).isSome) hv (by have:=Cp (a:=108)  b (by rw[hk];rfl) rfl hn;rw[show(ke r.er 108 n0)=((zt r.er n0).isSome)from by simp only[oH,rl,rp,ru,Gp,Gq]]at this;exact this) (fun h=>?_) (fun h=>?_)
 ·have h:=qE h
  rw[kJ hk (by decide) (by decide),if_pos (by decide)]
  unfold pk
  rw[fk hn,h]
 ·obtain⟨k,hp⟩:=oG h
  rw[hk]
  exact zfz b hk hn hv hp
theorem jqs (b:GB r)(hk:e.kind=rX)(hc:zf e.er=0):gV (jU r e) (after (qe .i64) r.er e.er):=by
 obtain⟨h1,h2⟩:=km hk (show yt rX=I (1,1)from rfl) hc
 obtain⟨n0,hn⟩:=jI h1
 obtain⟨v0,hv⟩:=jI h2
 refine oF (K:=(zt r.er n0).isSome) hv (by have:=Cp (a:=108)  b (by rw[hk];rfl) rfl hn;rw[show(ke r.er 108 n0)=((zt r.er n0).isSome)from by simp only[oH,rl,rp,ru,Gp,Gq]]at this;exact this) (fun h=>?_) (fun h=>?_)
 ·have h:=qE h
  rw[kJ hk (by decide) (by decide),if_pos (by decide)]
  unfold pk
  rw[fk hn,h]
 ·obtain⟨k,hp⟩:=oG h
  rw[hk]
  exact zg5 b hk hn hv hp
theorem jsc (b:GB r)(w:WF r.er)(hk:e.kind=kw)(hc:zf e.er=0):gV (jU r e) (after (qe .i64) r.er e.er):=by
 obtain⟨h1,h2⟩:=km hk (show yt kw=I (1,1)from rfl) hc
 obtain⟨n0,hn⟩:=jI h1
 obtain⟨v0,hv⟩:=jI h2
 refine oF (K:=(zp r.er n0).isSome) hv (by have:=Cp (a:=117)  b (by rw[hk];rfl) rfl hn;rw[show(ke r.er 117 n0)=((zp r.er n0).isSome)from by simp only[oH,rl,rp,ru,Gp,Gq]]at this;exact this) (fun h=>?_) (fun h=>?_)
 ·have h:=qE h
  rw[kJ hk (by decide) (by decide),if_neg (by decide)]
  unfold lF
  rw[fk hn,h]
 ·obtain⟨k,hp⟩:=oG h
  rw[hk]
  exact zkj b w hk hn hv hp
theorem q7o (b:GB r)(hk:e.kind=zQ)(hc:zf e.er=0):gV (jU r e) (after (qe .i64) r.er e.er):=by
 obtain⟨h1,h2⟩:=km hk (show yt zQ=I (1,1)from rfl) hc
 obtain⟨n0,hn⟩:=jI h1
 obtain⟨v0,hv⟩:=jI h2
 refine oF (K:=(zp r.er n0).isSome) hv (by have:=Cp (a:=117)  b (by rw[hk];rfl) rfl hn;rw[show(ke r.er 117 n0)=((zp r.er n0).isSome)from by simp only[oH,rl,rp,ru,Gp,Gq]]at this;exact this) (fun h=>?_) (fun h=>?_)
 ·have h:=qE h
  rw[kJ hk (by decide) (by decide),if_neg (by decide)]
  unfold lF
  rw[fk hn,h]
 ·obtain⟨k,hp⟩:=oG h
  rw[hk]
  exact zcq b hk hn hv hp
theorem q9j (b:GB r)(w:WF r.er)(hc:zf e.er=0)(hu:e.kind≠mT):gV (jU r e) (after (qe .i64) r.er e.er):=by
 obtain⟨_,f,h1,_,_⟩:=Js hc
 have hm:e.kind∈dB.map (·.1):=by
  unfold yt at h1
  cases hf:dB.find? (fun x=>decide (x.1=e.er.kind))with
  |none=>rw[hf]at h1;cases h1
  |some x=>
   have h2:=List.find?_some hf
   have h3:=List.mem_of_find?_eq_some hf
   rw[show e.kind=x.1 from(of_decide_eq_true h2).symm]
   exact Hb h3
 simp only[dB,Gz,G2,List.mem_cons,List.mem_singleton,List.not_mem_nil,or_false]at hm
 rcases hm with h|h|h|h|h|h|h|h|h|h|h|h|h|h|h
 ·exact jvj b h hc
 ·exact jc6 b h hc
 ·exact jp7 b h hc
 ·exact jr4 b h hc
 ·exact jjo b h hc
 ·exact jk8 b h hc
 ·exact jwv b w h hc
 ·exact jau b w h hc
 ·exact jer b w h hc
 ·exact jrm b h hc
 ·exact jq3 b h hc
 ·exact jqs b h hc
 ·exact jsc b w h hc
 ·exact q7o b h hc
 ·exact absurd h hu
end Go.Z
