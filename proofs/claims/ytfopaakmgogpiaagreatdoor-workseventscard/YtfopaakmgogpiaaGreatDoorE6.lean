/- Chapter 10, plain. -/
import Derived.Test.YtfopaakmgogpiaaGreatDoorE4
import Derived.Test.YtfopaakmgogpiaaGreatDoorV8
set_option linter.unusedVariables false
set_option linter.unusedSimpArgs false
set_option maxRecDepth 100000
namespace Go.Z
open Go Go.Abs Go.W
abbrev BB:Nat:=1000000
structure GB (r:GReg):Prop where
 L:(r.lots.getD []).length≤BB
 P:(r.products.getD []).length≤BB
 U:(r.units.getD []).length≤BB
 D:∀ p∈r.products.getD [],(p.docs.getD []).length≤BB∧(p.dn.getD []).length≤BB∧(p.dt.getD []).length≤BB∧∀ d∈p.docs.getD [],(d.needs.getD []).length≤BB∧(d.tests.getD []).length≤BB
 N:∀ u∈r.units.getD [],(u.uses.getD []).length≤BB∧(u.results.getD []).length≤BB
theorem jo {n:Nat} (h:n≤BB):n≤SM:=by unfold BB at h; unfold SM; omega
theorem qc0 {n:Nat} (h:n≤BB):n < SM:=by unfold BB at h; unfold SM; omega
def qfk (x:Option (Int × GReg)) (y:Res):Prop:=∃ c r',x=some (c,r')∧match y with
 | .error k=>c=k∧k ≠ 0
 | .ok s=>c=0∧r'.er=s
variable {r:GReg} {e:GEv}
theorem qvy {a lo hi:Int}:f52 a lo hi=some (if a < lo∨hi < a then 3 else 0):=by
 unfold f52
 by_cases h1:a < lo
 ·simp [h1,qaz,qa]
 ·by_cases h2:hi < a <;> simp [h1,h2,qaz,qa]
theorem yv {k:Nat}:ixI (some k)=(k:Int):=rfl
theorem qch {o:Option Nat}:decide (0≤ixI o)=o.isSome:=qdf o
theorem qt7 {n:List UInt8} {k:Nat} (h:zz r.er n=some k):∃ x,(r.lots.getD [])[k]?=some x∧x.name=n:=by
 obtain ⟨x,h1,h2,_⟩:=findIdx?_get h
 exact ⟨x,h1,of_decide_eq_true h2⟩
theorem qmm {n:List UInt8} {k:Nat} (h:z6 r.er n=some k):∃ p,(r.products.getD [])[k]?=some p∧p.name=n∧r.er.products[k]?=some p.er:=by
 rw [qks] at h
 obtain ⟨x,h1,h2,_⟩:=findIdx?_get h
 exact ⟨x,h1,of_decide_eq_true h2,by rw [qec,List.getElem?_map,h1]; rfl⟩
theorem qel {n:List UInt8} {k:Nat} (h:zq r.er n=some k):∃ u,(r.units.getD [])[k]?=some u∧u.name=n∧r.er.units[k]?=some u.er:=by
 rw [qqi] at h
 obtain ⟨x,h1,h2,_⟩:=findIdx?_get h
 exact ⟨x,h1,of_decide_eq_true h2,by rw [qfn,List.getElem?_map,h1]; rfl⟩
theorem qbe {α:Type} {l:List α} {a:α} {t:List α} (h:l=a::t):qw l 0=some a:=by subst h; rfl
theorem qa7 {α:Type} {l:List α} {a b:α} {t:List α} (h:l=a::b::t):qw l 1=some b:=by subst h; rfl
theorem jpb {α:Type} {l:List α} {a b c:α} {t:List α} (h:l=a::b::c::t):qw l 2=some c:=by subst h; rfl
theorem nm0 {a:List UInt8} {t:List (List UInt8)} (h:e.names.getD []=a::t):nm e.er 0=a:=by unfold nm; rw [show e.er.names=e.names.getD [] from rfl,h]; rfl
theorem nm1 {a b:List UInt8} {t:List (List UInt8)} (h:e.names.getD []=a::b::t):nm e.er 1=b:=by unfold nm; rw [show e.er.names=e.names.getD [] from rfl,h]; rfl
theorem vl0 {a:Int} {t:List Int} (h:e.values.getD []=a::t):vl e.er 0=a:=by unfold vl; rw [show e.er.values=e.values.getD [] from rfl,h]; rfl
theorem vl1 {a b:Int} {t:List Int} (h:e.values.getD []=a::b::t):vl e.er 1=b:=by unfold vl; rw [show e.er.values=e.values.getD [] from rfl,h]; rfl
theorem vl2 {a b c:Int} {t:List Int} (h:e.values.getD []=a::b::c::t):vl e.er 2=c:=by unfold vl; rw [show e.er.values=e.values.getD [] from rfl,h]; rfl
theorem qey:r.er.lots=r.lots.getD []:=rfl
theorem GReg.eta (r:GReg):(⟨r.day,r.lots,r.products,r.units⟩:GReg)=r:=rfl
theorem a105 (b:GB r) {n0 n1:List UInt8} {v0 v1:Int} (hk:e.kind=qcz) (hn:e.names.getD []=[n0,n1]) (hv:e.values.getD []=[v0,v1]):
  qfk (k9 105 r e) (jh (qe .i64) r.er e.er):=by
 have hR:jh (qe .i64) r.er e.er=qff r.er e.er:=by unfold jh; rw [if_pos (.inl hk)]
 rw [hR]
 unfold qff
 rw [if_pos (show e.er.kind=qcz from hk),nm0 hn,nm1 hn,vl1 hv,qey]
 have hA:k9 105 r e=qa (f105 e r.day r.lots r.products r.units) fun v=>some (v.1,{ r with lots:=v.2.1 }):=rfl
 rw [hA]
 unfold f105
 simp only [GReg.eta,qbe hn,qa7 hn,qa7 hv,qa,qm4 (jo b.L),qaz,qvy,qch]
 rw [ky (by simp [SM])]
 simp only [jk1 (qc0 b.L)]
 cases (zz r.er n0).isSome with
 | true=>exact ⟨_,_,rfl,rfl,by decide⟩
 | false=>
  by_cases h1:v1 < 1∨10000 < v1
  ·simp only [Bool.false_eq_true,if_false,h1,if_true,qag]
   exact ⟨_,_,rfl,rfl,by decide⟩
  ·by_cases h2:64≤(r.lots.getD []).length
   ·have h2':decide (64≤((r.lots.getD []).length:Int))=true:=decide_eq_true (by omega)
    simp only [Bool.false_eq_true,if_false,h1,h2,h2',if_true,qag]
    exact ⟨_,_,rfl,rfl,by decide⟩
   ·have h2':decide (64≤((r.lots.getD []).length:Int))=false:=decide_eq_false (by omega)
    simp only [Bool.false_eq_true,if_false,h1,h2,h2',if_true,qag]
    exact ⟨_,_,rfl,rfl,rfl⟩
theorem qvl {o:Option (List GProd)} {p:GProd} (h:o=some (r.products.getD []++[p])):({ r with products:=o }:GReg).er={ r.er with products:=r.er.products++[p.er] }:=by
 subst h
 simp only [GReg.er,Option.getD_some,List.map_append,List.map_cons,List.map_nil]
theorem quk {o:Option (List GUn)} {p:GUn} (h:o=some (r.units.getD []++[p])):({ r with units:=o }:GReg).er={ r.er with units:=r.er.units++[p.er] }:=by
 subst h
 simp only [GReg.er,Option.getD_some,List.map_append,List.map_cons,List.map_nil]
theorem qex {o:Option (List GProd)} {p:GProd} {k:Nat} (h:o=some ((r.products.getD []).set k p)):({ r with products:=o }:GReg).er=setProd r.er k p.er:=by
 subst h
 simp only [GReg.er,setProd,Option.getD_some,List.map_set]
theorem qcg {o:Option (List GUn)} {p:GUn} {k:Nat} (h:o=some ((r.units.getD []).set k p)):({ r with units:=o }:GReg).er=setUnit r.er k p.er:=by
 subst h
 simp only [GReg.er,setUnit,Option.getD_some,List.map_set]
theorem qkc {o:Option (List qt)} {p:qt} {k:Nat} (h:o=some ((r.lots.getD []).set k p)):({ r with lots:=o }:GReg).er=setLot r.er k p:=by
 subst h
 simp only [GReg.er,setLot,Option.getD_some]
theorem zfo (b:GB r) {n0:List UInt8} {v0:Int} (hk:e.kind=kr) (hn:e.names.getD []=[n0]) (hv:e.values.getD []=[v0]):
  qfk (k9 106 r e) (jh (qe .i64) r.er e.er):=by
 have hR:jh (qe .i64) r.er e.er=qff r.er e.er:=by unfold jh; rw [if_pos (.inr (.inl hk))]
 rw [hR]
 unfold qff
 rw [if_neg (show ¬ e.er.kind=qcz from fun h=>by rw [show e.er.kind=e.kind from rfl,hk] at h; exact absurd h (by decide)),if_pos (show e.er.kind=kr from hk),nm0 hn]
 have hA:k9 106 r e=qa (f106 e r.day r.lots r.products r.units) fun v=>some (v.1,{ r with products:=v.2.1 }):=rfl
 rw [hA]
 unfold f106
 simp only [GReg.eta,qbe hn,qa,qdy (jo b.P),qaz,qch]
 rw [ky (by simp [SM])]
 simp only [jje (qc0 b.P)]
 have hl:r.er.products.length=(r.products.getD []).length:=by rw [qec,List.length_map]
 rw [hl]
 cases (z6 r.er n0).isSome with
 | true=>exact ⟨_,_,rfl,rfl,by decide⟩
 | false=>
  by_cases h2:16≤(r.products.getD []).length
  ·have h2':decide (16≤((r.products.getD []).length:Int))=true:=decide_eq_true (by omega)
   simp only [Bool.false_eq_true,if_false,h2,h2',if_true,qag]
   exact ⟨_,_,rfl,rfl,by decide⟩
  ·have h2':decide (16≤((r.products.getD []).length:Int))=false:=decide_eq_false (by omega)
   simp only [Bool.false_eq_true,if_false,h2,h2',if_true,qag]
   exact ⟨_,_,rfl,rfl,qvl rfl⟩
theorem zas (b:GB r) {n0 n1:List UInt8} {v0:Int} {k:Nat} (hk:e.kind=qbw) (hn:e.names.getD []=[n0,n1]) (hv:e.values.getD []=[v0]) (hp:z6 r.er n1=some k):
  qfk (k9 110 r e) (jh (qe .i64) r.er e.er):=by
 have hR:jh (qe .i64) r.er e.er=qff r.er e.er:=by unfold jh; rw [if_pos (.inr (.inr hk))]
 rw [hR]
 obtain ⟨p,h1,_,h3⟩:=qmm hp
 have hpo:qbp r.er n1=some p.er:=by unfold qbp; rw [hp]; exact h3
 unfold qff
 rw [if_neg (show ¬ e.er.kind=qcz from fun h=>by rw [show e.er.kind=e.kind from rfl,hk] at h; exact absurd h (by decide)),if_neg (show ¬ e.er.kind=kr from fun h=>by rw [show e.er.kind=e.kind from rfl,hk] at h; exact absurd h (by decide)),nm0 hn,nm1 hn,hpo]
 have hA:k9 110 r e=qa (f110 e r.day r.lots r.products r.units) fun v=>some (v.1,{ r with units:=v.2.1 }):=rfl
 rw [hA]
 unfold f110 f182
 simp only [GReg.eta,qbe hn,qa7 hn,qa,qdy (jo b.P),qhn (jo b.U),qaz,qch,hp,yv,jf h1]
 rw [ky (by simp [SM])]
 simp only [jkn (qc0 b.U)]
 have hl:r.er.units.length=(r.units.getD []).length:=by rw [qfn,List.length_map]
 have hd:p.er.docs.isEmpty=decide (((p.docs.getD []).length:Int)=0):=by
  show ((p.docs.getD []).map GDoc.er).isEmpty=_
  cases p.docs.getD [] with
  | nil=>rfl
  | cons x l=>simp; omega
 have hd2:p.er.docs.length=(p.docs.getD []).length:=by show ((p.docs.getD []).map GDoc.er).length=_; rw [List.length_map]
 simp only [hl,hd,hd2]
 cases (zq r.er n0).isSome with
 | true=>exact ⟨_,_,rfl,rfl,by decide⟩
 | false=>
  cases hz:decide (((p.docs.getD []).length:Int)=0) with
  | true=>exact ⟨_,_,rfl,rfl,by decide⟩
  | false=>
   by_cases h2:256≤(r.units.getD []).length
   ·have h2':decide (256≤((r.units.getD []).length:Int))=true:=decide_eq_true (by omega)
    simp only [Bool.false_eq_true,if_false,h2,h2',if_true,qag]
    exact ⟨_,_,rfl,rfl,by decide⟩
   ·have h2':decide (256≤((r.units.getD []).length:Int))=false:=decide_eq_false (by omega)
    simp only [Bool.false_eq_true,if_false,h2,h2',if_true,qag]
    exact ⟨_,_,rfl,rfl,quk rfl⟩
theorem jjt {p:GProd} {c:Int} {n:List UInt8} (hl:(p.dn.getD []).length < SM):∃ v,q1d c n n p=some { p with dn:=v }∧v.getD []=qac (p.dn.getD []) n c:=by
 unfold q1d qac
 by_cases h:c=0
 ·simp only [h,decide_true,cond_true,if_true,jkb (Nat.le_of_lt hl),qa]
  exact ⟨_,rfl,zt _⟩
 ·obtain ⟨v,w,h1,h2⟩:=jlg (x:=⟨n,c⟩) (k:=n) hl
  simp only [h,decide_false,cond_false,if_false,h1,qa]
  exact ⟨_,rfl,h2⟩
theorem jbr (b:GB r) {n0 n1:List UInt8} {c:Int} {k:Nat} {p:GProd} (hp:z6 r.er n0=some k) (hx:(r.products.getD [])[k]?=some p):∃ v,qn3 n0 c n1 n1 r.day r.lots r.products r.units=some (some ((r.products.getD []).set k { p with dn:=v }))∧v.getD []=qac (p.dn.getD []) n1 c:=by
 obtain ⟨v,h1,h2⟩:=jjt (c:=c) (n:=n1) (qc0 (b.D p (List.mem_of_getElem? hx)).2.1)
 refine ⟨v,?_,h2⟩
 unfold qn3 jdo
 simp only [GReg.eta,qdy (jo b.P),hp,yv,qa]
 rw [qci (jo b.P) hx h1]
theorem jgi (b:GB r) {n0:List UInt8} {t:qu} {k:Nat} {p:GProd} (hp:z6 r.er n0=some k) (hx:(r.products.getD [])[k]?=some p):∃ v,qr9 n0 t t r.day r.lots r.products r.units=some (some ((r.products.getD []).set k { p with dt:=v }))∧v.getD []=qak (isT t.k) t (p.dt.getD []):=by
 obtain ⟨v,w,h1,h2⟩:=jln (x:=t) (s:=t) (o:=p.dt) (qc0 (b.D p (List.mem_of_getElem? hx)).2.2.1)
 refine ⟨v,?_,h2⟩
 unfold qr9 jgn
 simp only [GReg.eta,qdy (jo b.P),hp,yv,qa]
 rw [qci (jo b.P) hx (show q00 t t p=some { p with dt:=v } by unfold q00; rw [h1]; rfl)]
theorem onP {n0:List UInt8} {k:Nat} {p:GProd} (hn:nm e.er 0=n0) (hp:z6 r.er n0=some k) (h3:r.er.products[k]?=some p.er):qax r.er e.er =
   if e.kind=qbq then
    (if vl e.er 1 < 0∨10000 < vl e.er 1 then .error 3 else if 0 < vl e.er 1∧!((p.dn.getD []).any (isK (nm e.er 1)))∧16≤(p.dn.getD []).length then .error 5 else
     .ok (setProd r.er k { p.er with draft:={ p.er.draft with needs:=qac (p.dn.getD []) (nm e.er 1) (vl e.er 1) } }))
   else if e.kind=qbz then
    (if vl e.er 2 < vl e.er 1 then .error 11 else if !((p.dt.getD []).any (isT (nm e.er 1)))∧16≤(p.dt.getD []).length then .error 5 else
     .ok (setProd r.er k { p.er with draft:={ p.er.draft with tests:=qak (isT (nm e.er 1)) ⟨nm e.er 1,vl e.er 1,vl e.er 2⟩ (p.dt.getD []) } }))
   else (if (p.dn.getD []).isEmpty then .error 12 else if 100≤p.er.docs.length then .error 5 else .ok (setProd r.er k { p.er with docs:=p.er.docs++[p.er.draft] })):=by
 unfold qax
 rw [hn,hp]
 simp only [h3]
 rfl
theorem j7w (b:GB r) {n0 n1:List UInt8} {v0 v1:Int} {k:Nat} (hk:e.kind=qbq) (hn:e.names.getD []=[n0,n1]) (hv:e.values.getD []=[v0,v1]) (hp:z6 r.er n0=some k):
  qfk (k9 107 r e) (jh (qe .i64) r.er e.er):=by
 have hR:jh (qe .i64) r.er e.er=qax r.er e.er:=by
  unfold jh
  rw [show e.er.kind=qbq from hk,if_neg (by decide),if_pos (.inl rfl)]
 obtain ⟨p,h1,_,h3⟩:=qmm hp
 rw [hR,onP (nm0 hn) hp h3,if_pos hk,nm1 hn,vl1 hv]
 have hA:k9 107 r e=qa (f107 e r.day r.lots r.products r.units) fun v=>some (v.1,{ r with products:=v.2 }):=rfl
 rw [hA]
 obtain ⟨v,g1,g2⟩:=jbr b (n1:=n1) (c:=v1) hp h1
 have hdl:=(b.D p (List.mem_of_getElem? h1)).2.1
 have hok:({ r with products:=some ((r.products.getD []).set k { p with dn:=v }) }:GReg).er=setProd r.er k { p.er with draft:={ p.er.draft with needs:=qac (p.dn.getD []) n1 v1 } }:=by
  rw [qex rfl]
  congr 1
  simp only [GProd.er,g2]
 unfold f107
 simp only [GReg.eta,qbe hn,qa7 hn,qa7 hv,qa,qdy (jo b.P),hp,yv,jf h1,qvy,qaz,jdm (jo hdl),g1]
 by_cases hz:v1 < 0∨10000 < v1
 ·simp only [hz,if_true,if_false,Bool.false_eq_true]
  cases decide (0 < v1) <;> cases (p.dn.getD []).any (isK n1) <;> (simp only [cond_true,cond_false]; rw [ky (by simp [SM])]; exact ⟨_,_,rfl,rfl,by decide⟩)
 ·simp only [hz,if_false,if_true,Bool.false_eq_true]
  by_cases h0:0 < v1
  ·rw [decide_eq_true h0]
   cases ha:(p.dn.getD []).any (isK n1) with
   | true=>
    simp only [cond_true,Bool.not_true,Bool.false_eq_true,false_and,and_false,if_false]
    rw [ky (by simp [SM])]
    exact ⟨_,_,rfl,rfl,hok⟩
   | false=>
    simp only [cond_true,cond_false,Bool.not_false,true_and,h0]
    rw [ky (by simp [SM])]
    by_cases h2:16≤(p.dn.getD []).length
    ·rw [show decide (16≤((p.dn.getD []).length:Int))=true from decide_eq_true (by omega),if_pos h2]
     exact ⟨_,_,rfl,rfl,by decide⟩
    ·rw [show decide (16≤((p.dn.getD []).length:Int))=false from decide_eq_false (by omega),if_neg h2]
     exact ⟨_,_,rfl,rfl,hok⟩
  ·rw [decide_eq_false h0,if_neg (show ¬ (0 < v1∧(!(p.dn.getD []).any (isK n1))=true∧16≤(p.dn.getD []).length) from fun h=>h0 h.1)]
   simp only [cond_false]
   rw [ky (by simp [SM])]
   exact ⟨_,_,rfl,rfl,hok⟩
theorem zb8 (b:GB r) {n0 n1:List UInt8} {v0 v1 v2:Int} {k:Nat} (hk:e.kind=qbz) (hn:e.names.getD []=[n0,n1]) (hv:e.values.getD []=[v0,v1,v2]) (hp:z6 r.er n0=some k):
  qfk (k9 108 r e) (jh (qe .i64) r.er e.er):=by
 have hR:jh (qe .i64) r.er e.er=qax r.er e.er:=by
  unfold jh
  rw [show e.er.kind=qbz from hk,if_neg (by decide),if_pos (.inr (.inl rfl))]
 obtain ⟨p,h1,_,h3⟩:=qmm hp
 rw [hR,onP (nm0 hn) hp h3,if_neg (by rw [hk]; decide),if_pos hk,nm1 hn,vl1 hv,vl2 hv]
 have hA:k9 108 r e=qa (f108 e r.day r.lots r.products r.units) fun v=>some (v.1,{ r with products:=v.2 }):=rfl
 rw [hA]
 obtain ⟨v,g1,g2⟩:=jgi b (t:=⟨n1,v1,v2⟩) hp h1
 have hdl:=(b.D p (List.mem_of_getElem? h1)).2.2.1
 have hok:({ r with products:=some ((r.products.getD []).set k { p with dt:=v }) }:GReg).er=setProd r.er k { p.er with draft:={ p.er.draft with tests:=qak (isT n1) ⟨n1,v1,v2⟩ (p.dt.getD []) } }:=by
  rw [qex rfl]
  congr 1
  simp only [GProd.er,g2]
 unfold f108
 simp only [GReg.eta,qbe hn,qa7 hn,qa7 hv,jpb hv,qa,qdy (jo b.P),hp,yv,jf h1,qaz,jfi (jo hdl),g1]
 by_cases hz:v2 < v1
 ·rw [decide_eq_true hz,if_pos hz]
  cases (p.dt.getD []).any (isT n1) <;> (simp only [cond_true,cond_false]; rw [ky (by simp [SM])]; exact ⟨_,_,rfl,rfl,by decide⟩)
 ·rw [decide_eq_false hz,if_neg hz]
  cases ha:(p.dt.getD []).any (isT n1) with
  | true=>
   simp only [cond_true,Bool.not_true,Bool.false_eq_true,false_and,if_false]
   rw [ky (by simp [SM])]
   exact ⟨_,_,rfl,rfl,hok⟩
  | false=>
   simp only [cond_false,Bool.not_false,true_and]
   rw [ky (by simp [SM])]
   by_cases h2:16≤(p.dt.getD []).length
   ·rw [show decide (16≤((p.dt.getD []).length:Int))=true from decide_eq_true (by omega),if_pos h2]
    exact ⟨_,_,rfl,rfl,by decide⟩
   ·rw [show decide (16≤((p.dt.getD []).length:Int))=false from decide_eq_false (by omega),if_neg h2]
    exact ⟨_,_,rfl,rfl,hok⟩
theorem q20 {α:Type} {o:Option (List α)} (h:(o.getD []).length≤SM):∃ v w,(cond o.isNone (some (none,false)) (qa (apO (some []) (o.getD [])) fun v=>some (v,true)))=some (v,w)∧v.getD []=o.getD []:=by
 cases o with
 | none=>exact ⟨none,false,rfl,rfl⟩
 | some l=>
  have h':l.length≤SM:=h
  simp only [Option.isNone_some,cond_false,Option.getD_some]
  rw [qej h']
  exact ⟨_,_,rfl,rfl⟩
theorem jkj {d:GDoc} (h1:(d.needs.getD []).length≤SM) (h2:(d.tests.getD []).length≤SM):∃ d',f181 d=some d'∧d'.er=d.er:=by
 obtain ⟨v,w,g1,g2⟩:=q20 h1
 obtain ⟨v',w',g3,g4⟩:=q20 h2
 unfold f181
 rw [show f245 d.needs=some (v,w) from g1,show f246 d.tests=some (v',w') from g3]
 exact ⟨⟨v,v'⟩,rfl,by simp only [GDoc.er,g2,g4]⟩
theorem a109 (b:GB r) {n0:List UInt8} {v0:Int} {k:Nat} (hk:e.kind=qb8) (hn:e.names.getD []=[n0]) (hv:e.values.getD []=[v0]) (hp:z6 r.er n0=some k):
  qfk (k9 109 r e) (jh (qe .i64) r.er e.er):=by
 have hR:jh (qe .i64) r.er e.er=qax r.er e.er:=by
  unfold jh
  rw [show e.er.kind=qb8 from hk,if_neg (by decide),if_pos (.inr (.inr rfl))]
 obtain ⟨p,h1,_,h3⟩:=qmm hp
 rw [hR,onP (nm0 hn) hp h3,if_neg (by rw [hk]; decide),if_neg (by rw [hk]; decide)]
 have hA:k9 109 r e=qa (f109 e r.day r.lots r.products r.units) fun v=>some (v.1,{ r with products:=v.2 }):=rfl
 rw [hA]
 have hD:=b.D p (List.mem_of_getElem? h1)
 obtain ⟨d',g1,g2⟩:=jkj (d:=⟨p.dn,p.dt⟩) (jo hD.2.1) (jo hD.2.2.1)
 have g3:q6e r.products (k:Int)=some (some ((r.products.getD []).set k { p with docs:=some (p.docs.getD []++[d']) })):=by
  unfold q6e
  exact qci (jo b.P) h1 (by unfold q7g; rw [g1]; simp only [qa]; rw [jjc (qc0 hD.1)])
 have hok:({ r with products:=some ((r.products.getD []).set k { p with docs:=some (p.docs.getD []++[d']) }) }:GReg).er=setProd r.er k { p.er with docs:=p.er.docs++[p.er.draft] }:=by
  rw [qex rfl]
  congr 1
  simp only [GProd.er,Option.getD_some,List.map_append,List.map_cons,List.map_nil,g2]
  rfl
 have hd2:p.er.docs.length=(p.docs.getD []).length:=by show ((p.docs.getD []).map GDoc.er).length=_; rw [List.length_map]
 have hd:(p.dn.getD []).isEmpty=decide (((p.dn.getD []).length:Int)=0):=by
  cases p.dn.getD [] with
  | nil=>rfl
  | cons x l=>simp; omega
 unfold f109
 simp only [GReg.eta,qbe hn,qa,qdy (jo b.P),hp,yv,jf h1,qaz,g3,hd,hd2]
 rw [ky (by simp [SM])]
 cases decide (((p.dn.getD []).length:Int)=0) with
 | true=>exact ⟨_,_,rfl,rfl,by decide⟩
 | false=>
  by_cases h2:100≤(p.docs.getD []).length
  ·rw [show decide (100≤((p.docs.getD []).length:Int))=true from decide_eq_true (by omega),if_pos h2]
   exact ⟨_,_,rfl,rfl,by decide⟩
  ·rw [show decide (100≤((p.docs.getD []).length:Int))=false from decide_eq_false (by omega),if_neg h2]
   exact ⟨_,_,rfl,rfl,hok⟩
end Go.Z
namespace Go.Z
open Go Go.Abs Go.W
variable {r:GReg} {e:GEv}
theorem kn {k:List UInt8} (hk:e.kind=k) (h:¬ (k=qcz∨k=kr∨k=qbw)) (h2:¬ (k=qbq∨k=qbz∨k=qb8)):jh (qe .i64) r.er e.er=if k=qcf∨k=qea then qkm r.er e.er else qds (qe .i64) r.er e.er:=by
 unfold jh
 rw [show e.er.kind=k from hk,if_neg h,if_neg h2]
theorem zbe (b:GB r) {n0:List UInt8} {v0:Int} {k:Nat} (hk:e.kind=qcf) (hn:e.names.getD []=[n0]) (hv:e.values.getD []=[v0]) (hp:zz r.er n0=some k):
  qfk (k9 115 r e) (jh (qe .i64) r.er e.er):=by
 rw [kn hk (by decide) (by decide),if_pos (.inl rfl)]
 obtain ⟨x,h1,_⟩:=qt7 hp
 have hA:k9 115 r e=qa (f115 e r.day r.lots r.products r.units) fun v=>some (v.1,{ r with lots:=v.2 }):=rfl
 rw [hA]
 have g1:jeu r.lots (k:Int)=some (some ((r.lots.getD []).set k { x with held:=true })):=qci (jo b.L) h1 rfl
 unfold qkm
 rw [nm0 hn,hp]
 simp only [qey,h1]
 rw [if_pos (show e.er.kind=qcf from hk)]
 unfold f115
 simp only [GReg.eta,qbe hn,qa,qm4 (jo b.L),hp,yv,jf h1,g1]
 cases x.held with
 | true=>exact ⟨_,_,rfl,rfl,by decide⟩
 | false=>exact ⟨_,_,rfl,rfl,qkc rfl⟩
theorem j9l (b:GB r) {n0:List UInt8} {v0:Int} {k:Nat} (hk:e.kind=qea) (hn:e.names.getD []=[n0]) (hv:e.values.getD []=[v0]) (hp:zz r.er n0=some k):
  qfk (k9 116 r e) (jh (qe .i64) r.er e.er):=by
 rw [kn hk (by decide) (by decide),if_pos (.inr rfl)]
 obtain ⟨x,h1,_⟩:=qt7 hp
 have hA:k9 116 r e=qa (f116 e r.day r.lots r.products r.units) fun v=>some (v.1,{ r with lots:=v.2 }):=rfl
 rw [hA]
 have g1:jhv r.lots (k:Int)=some (some ((r.lots.getD []).set k { x with held:=false })):=qci (jo b.L) h1 rfl
 unfold qkm
 rw [nm0 hn,hp]
 simp only [qey,h1]
 rw [if_neg (show ¬ e.er.kind=qcf from fun h=>by rw [show e.er.kind=e.kind from rfl,hk] at h; exact absurd h (by decide))]
 unfold f116
 simp only [GReg.eta,qbe hn,qa,qm4 (jo b.L),hp,yv,jf h1,g1]
 cases x.held with
 | true=>exact ⟨_,_,rfl,rfl,qkc rfl⟩
 | false=>exact ⟨_,_,rfl,rfl,by decide⟩
structure UOk (r:GReg) (u:GUn) (D:GDoc) (v:Int):Prop where
 doc:f134 r u=some D
 doc':f78 r u=some D
 pap:qbg r.er u.er=some D.er
 new:qef r.er u.er=some v
 needs:(D.needs.getD []).length≤BB
 tests:(D.tests.getD []).length≤BB
 uses:(u.uses.getD []).length≤BB
 results:(u.results.getD []).length≤BB
 lots:∀ x∈u.uses.getD [],(zz r.er x.k).isSome=true
 keyed:qat (·.k) (u.uses.getD [])
 ver:u.version ≠ -1
theorem jbm {u:GUn} {d:SDoc} (h:qbg r.er u.er=some d):∃ (k:Nat) (p:GProd),(r.products.getD [])[k]?=some p∧1≤u.version∧∃ D:GDoc,D∈p.docs.getD []∧D.er=d:=by
 unfold qbg at h
 cases hp:qbp r.er u.er.product with
 | none=>rw [hp] at h; cases h
 | some sp=>
  rw [hp] at h
  obtain ⟨k,p,_,h2,rfl,_⟩:=qte hp
  simp only [Option.bind_some,q67] at h
  split at h
  ·rename_i hv
   refine ⟨k,p,h2,hv,?_⟩
   have h3:((p.docs.getD []).map GDoc.er)[(u.er.version - 1).toNat]?=some d:=h
   rw [List.getElem?_map] at h3
   cases hD:(p.docs.getD [])[(u.er.version - 1).toNat]? with
   | none=>rw [hD] at h3; cases h3
   | some D=>rw [hD] at h3; exact ⟨D,List.mem_of_getElem? hD,by simpa using h3⟩
  ·cases h
theorem qiu (b:GB r) (w:WF r.er) {i:Nat} {u:GUn} (hu:(r.units.getD [])[i]?=some u):∃ D v,UOk r u D v:=by
 have hm:=List.mem_of_getElem? hu
 have hme:u.er∈r.er.units:=by rw [qfn]; exact List.mem_map_of_mem hm
 obtain ⟨d,hd⟩:=Option.isSome_iff_exists.1 (w.papers _ hme)
 obtain ⟨D,g1,g2,rfl⟩:=jpv (jo b.P) (fun p hp=>jo (b.D p hp).1) hd
 obtain ⟨k,p,hp,hv,D',hD',he⟩:=jbm hd
 have hb:=(b.D p (List.mem_of_getElem? hp)).2.2.2 D' hD'
 have h1:D.needs.getD []=D'.needs.getD []:=congrArg SDoc.needs he.symm
 have h2:D.tests.getD []=D'.tests.getD []:=congrArg SDoc.tests he.symm
 have hnew:(qef r.er u.er).isSome=true:=by
  unfold qef
  unfold qbg at hd
  cases hq:qbp r.er u.er.product with
  | none=>rw [hq] at hd; cases hd
  | some sp=>rfl
 obtain ⟨v,hnv⟩:=Option.isSome_iff_exists.1 hnew
 exact ⟨D,v,g1,g2,hd,hnv,by rw [h1]; exact hb.1,by rw [h2]; exact hb.2,(b.N u hm).1,(b.N u hm).2,(w.uses _ hme).2,(w.uses _ hme).1,by omega⟩
theorem onU {n0:List UInt8} {k:Nat} {u:GUn} (hn:nm e.er 0=n0) (hp:zq r.er n0=some k) (h3:r.er.units[k]?=some u.er):qds (qe .i64) r.er e.er =
   if e.kind=qcw then qn1 (qe .i64) r.er k u.er e.er
   else if e.kind=qb0 then qjh r.er k u.er e.er
   else if e.kind=qan then
    (if u.shipped then .error 21 else if !((qbg r.er u.er).any fun d=>d.tests.any (isT (nm e.er 1))) then .error 7 else if 64≤(u.results.getD []).length then .error 5 else
     .ok (setUnit r.er k { u.er with results:=u.results.getD []++[⟨nm e.er 1,u.version,vl e.er 1⟩] }))
   else if e.kind=qbl then
    (if u.shipped then .error 21 else match qef r.er u.er with
     | none=>.error 32
     | some v=>if u.version=v then .error 32 else .ok (setUnit r.er k { u.er with version:=v }))
   else if e.kind=qau then (if qe6 (qe .i64) r.er u.er ≠ 0 then .error (qe6 (qe .i64) r.er u.er) else .ok (setUnit r.er k { u.er with shipped:=true }))
   else (if !u.shipped then .error 20 else .ok (setUnit r.er k { u.er with complaints:=qe .i64 (u.complaints + 1) })):=by
 unfold qds
 rw [hn,hp]
 simp only [h3]
 rfl
theorem zdt (b:GB r) (w:WF r.er) {n0:List UInt8} {v0:Int} {k:Nat} (hk:e.kind=qbl) (hn:e.names.getD []=[n0]) (hv:e.values.getD []=[v0]) (hp:zq r.er n0=some k):
  qfk (k9 113 r e) (jh (qe .i64) r.er e.er):=by
 rw [kn hk (by decide) (by decide),if_neg (by decide)]
 obtain ⟨u,h1,_,h3⟩:=qel hp
 obtain ⟨D,v,o⟩:=qiu b w h1
 rw [onU (nm0 hn) hp h3,if_neg (by rw [hk]; decide),if_neg (by rw [hk]; decide),if_neg (by rw [hk]; decide),if_pos hk,o.new]
 have hA:k9 113 r e=qa (f113 e r.day r.lots r.products r.units) fun v=>some (v.1,{ r with units:=v.2 }):=rfl
 rw [hA]
 have g1:jdi r.units (k:Int) v=some (some ((r.units.getD []).set k { u with version:=v })):=qci (jo b.U) h1 rfl
 generalize hU:({ u with version:=v }:GUn)=U' at g1
 have hok:({ r with units:=some ((r.units.getD []).set k U') }:GReg).er=setUnit r.er k { u.er with version:=v }:=by rw [qcg rfl,← hU]; rfl
 unfold f113
 simp only [GReg.eta,qbe hn,qa,qhn (jo b.U),hp,yv,jf h1,(qkg (jo b.P) o.new).1,qaz,g1]
 rw [ky (by simp [SM])]
 cases u.shipped with
 | true=>exact ⟨_,_,rfl,rfl,by decide⟩
 | false=>
  by_cases h:u.version=v
  ·rw [decide_eq_true h,if_pos h]; exact ⟨_,_,rfl,rfl,by decide⟩
  ·rw [decide_eq_false h,if_neg h]; exact ⟨_,_,rfl,rfl,hok⟩
theorem zcm (b:GB r) (w:WF r.er) {n0:List UInt8} {v0:Int} {k:Nat} (hk:e.kind=qau) (hn:e.names.getD []=[n0]) (hv:e.values.getD []=[v0]) (hp:zq r.er n0=some k):
  qfk (k9 117 r e) (jh (qe .i64) r.er e.er):=by
 rw [kn hk (by decide) (by decide),if_neg (by decide)]
 obtain ⟨u,h1,_,h3⟩:=qel hp
 obtain ⟨D,v,o⟩:=qiu b w h1
 rw [onU (nm0 hn) hp h3,if_neg (by rw [hk]; decide),if_neg (by rw [hk]; decide),if_neg (by rw [hk]; decide),if_neg (by rw [hk]; decide),if_pos hk]
 have hA:k9 117 r e=qa (f117 e r.day r.lots r.products r.units) fun v=>some (v.1,{ r with units:=v.2 }):=rfl
 rw [hA]
 have g1:jen r.units (k:Int)=some (some ((r.units.getD []).set k { u with shipped:=true })):=qci (jo b.U) h1 rfl
 have g2:=jq9 (jo b.P) o.new (jo b.L) (jo o.uses) o.lots o.doc o.pap (jo o.needs) (jo o.results) (jo o.tests) o.ver
 unfold f117
 simp only [GReg.eta,qbe hn,qa,qhn (jo b.U),hp,yv,jf h1,g2,g1]
 by_cases h:qe6 (qe .i64) r.er u.er=0
 ·rw [decide_eq_true h,if_neg (fun hh=>hh h)]; exact ⟨_,_,rfl,rfl,qcg rfl⟩
 ·rw [decide_eq_false h,if_pos h]; exact ⟨_,_,rfl,rfl,h⟩
theorem zey (b:GB r) {n0:List UInt8} {v0:Int} {k:Nat} (hk:e.kind=qcb) (hn:e.names.getD []=[n0]) (hv:e.values.getD []=[v0]) (hp:zq r.er n0=some k):
  qfk (k9 118 r e) (jh (qe .i64) r.er e.er):=by
 rw [kn hk (by decide) (by decide),if_neg (by decide)]
 obtain ⟨u,h1,_,h3⟩:=qel hp
 rw [onU (nm0 hn) hp h3,if_neg (by rw [hk]; decide),if_neg (by rw [hk]; decide),if_neg (by rw [hk]; decide),if_neg (by rw [hk]; decide),if_neg (by rw [hk]; decide)]
 have hA:k9 118 r e=qa (f118 e r.day r.lots r.products r.units) fun v=>some (v.1,{ r with units:=v.2 }):=rfl
 rw [hA]
 have g1:jcy r.units (k:Int)=some (some ((r.units.getD []).set k { u with complaints:=qe .i64 (u.complaints + 1) })):=qci (jo b.U) h1 rfl
 generalize hU:({ u with complaints:=qe .i64 (u.complaints + 1) }:GUn)=U' at g1
 have hok:({ r with units:=some ((r.units.getD []).set k U') }:GReg).er=setUnit r.er k { u.er with complaints:=qe .i64 (u.complaints + 1) }:=by rw [qcg rfl,← hU]; rfl
 unfold f118
 simp only [GReg.eta,qbe hn,qa,qhn (jo b.U),hp,yv,jf h1,g1]
 cases u.shipped with
 | true=>exact ⟨_,_,rfl,rfl,hok⟩
 | false=>exact ⟨_,_,rfl,rfl,by decide⟩
theorem zec (b:GB r) (w:WF r.er) {n0 n1:List UInt8} {v0 v1:Int} {k:Nat} (hk:e.kind=qan) (hn:e.names.getD []=[n0,n1]) (hv:e.values.getD []=[v0,v1]) (hp:zq r.er n0=some k):
  qfk (k9 112 r e) (jh (qe .i64) r.er e.er):=by
 rw [kn hk (by decide) (by decide),if_neg (by decide)]
 obtain ⟨u,h1,_,h3⟩:=qel hp
 obtain ⟨D,v,o⟩:=qiu b w h1
 rw [onU (nm0 hn) hp h3,if_neg (by rw [hk]; decide),if_neg (by rw [hk]; decide),if_pos hk,nm1 hn,vl1 hv,o.pap]
 have hA:k9 112 r e=qa (f112 e r.day r.lots r.products r.units) fun v=>some (v.1,{ r with units:=v.2 }):=rfl
 rw [hA]
 have g1:jb9 r.units (k:Int) e=some (some ((r.units.getD []).set k { u with results:=some (u.results.getD []++[⟨n1,u.version,v1⟩]) })):=qci (jo b.U) h1 (by
  unfold q5u
  rw [qa7 hn,qa7 hv]
  simp only [qa]
  rw [jja (qc0 o.results)])
 generalize hU:({ u with results:=some (u.results.getD []++[⟨n1,u.version,v1⟩]) }:GUn)=U' at g1
 have hok:({ r with units:=some ((r.units.getD []).set k U') }:GReg).er=setUnit r.er k { u.er with results:=u.results.getD []++[⟨n1,u.version,v1⟩] }:=by rw [qcg rfl,← hU]; rfl
 unfold f112
 simp only [GReg.eta,qbe hn,qa,qhn (jo b.U),hp,yv,jf h1,o.doc,jf6 (qa7 hn) (jo o.tests),qaz,g1,Option.any_some]
 rw [ky (by simp [SM]),show D.er.tests=D.tests.getD [] from rfl]
 cases u.shipped with
 | true=>exact ⟨_,_,rfl,rfl,by decide⟩
 | false=>
  cases (D.tests.getD []).any (isT n1) with
  | false=>exact ⟨_,_,rfl,rfl,by decide⟩
  | true=>
   by_cases h2:64≤(u.results.getD []).length
   ·rw [show decide (64≤((u.results.getD []).length:Int))=true from decide_eq_true (by omega),if_pos h2]
    exact ⟨_,_,rfl,rfl,by decide⟩
   ·rw [show decide (64≤((u.results.getD []).length:Int))=false from decide_eq_false (by omega),if_neg h2]
    exact ⟨_,_,rfl,rfl,hok⟩
theorem zev (b:GB r) (w:WF r.er) {n0 n1:List UInt8} {v0 v1:Int} {k j:Nat} (hk:e.kind=qcw) (hn:e.names.getD []=[n0,n1]) (hv:e.values.getD []=[v0,v1]) (hp:zq r.er n0=some k) (hq:zz r.er n1=some j):
  qfk (k9 111 r e) (jh (qe .i64) r.er e.er):=by
 rw [kn hk (by decide) (by decide),if_neg (by decide)]
 obtain ⟨u,h1,_,h3⟩:=qel hp
 obtain ⟨x,h4,hxn⟩:=qt7 hq
 obtain ⟨D,v,o⟩:=qiu b w h1
 rw [onU (nm0 hn) hp h3,if_pos hk]
 unfold qn1
 rw [nm1 hn,hq,vl1 hv,o.pap]
 simp only [qey,h4]
 have hA:k9 111 r e=qa (f111 e r.day r.lots r.products r.units) fun v=>some (v.1,{ r with lots:=v.2.1,units:=v.2.2 }):=rfl
 rw [hA]
 have g1:jcv r.lots (j:Int) v1=some (some ((r.lots.getD []).set j { x with left:=qe .i64 (x.left - v1) })):=qci (jo b.L) h4 rfl
 unfold f111
 simp only [GReg.eta,qbe hn,qa7 hn,qa7 hv,qa,qhn (jo b.U),qm4 (jo b.L),hp,hq,yv,jf h1,jf h4,o.doc,jhg (jo o.needs),qaz,g1,ji1 (jo o.uses),Option.any_some]
 rw [ky (by simp [SM])]
 have hdn:D.er.needs=D.needs.getD []:=rfl
 simp only [hdn]
 have hfin:∀ (s:GSI),qe8 (qe .i64) (u.uses.getD []) x.name v1=qak (isK x.name) s (u.uses.getD [])→∃ us,chO r.units (k:Int) (qxp s x)=some us∧({ r with lots:=some ((r.lots.getD []).set j { x with left:=qe .i64 (x.left - v1) }),units:=us }:GReg).er=setUnit (setLot r.er j { x with left:=qe .i64 (x.left - v1) }) k { u.er with uses:=qe8 (qe .i64) u.er.uses x.name v1 }:=by
  intro s hs
  obtain ⟨q,wq,q1,q2⟩:=jkd (x:=s) (t:=x) (o:=u.uses) (qc0 o.uses)
  refine ⟨_,qci (y:={ u with uses:=q }) (jo b.U) h1 (by unfold qxp; rw [q1]; rfl),?_⟩
  simp only [GReg.er,setUnit,setLot,Option.getD_some,List.map_set]
  congr 2
  simp only [GUn.er,q2,hs]
 by_cases hs:u.shipped=true
 ·simp only [if_pos hs,if_pos (show u.er.shipped=true from hs)]
  exact ⟨_,_,rfl,rfl,by decide⟩
 simp only [if_neg hs,if_neg (show ¬ u.er.shipped=true from hs)]
 by_cases hz:v1=0
 ·simp only [if_pos hz,decide_eq_true hz,if_true]
  exact ⟨_,_,rfl,rfl,by decide⟩
 simp only [if_neg hz,decide_eq_false hz,Bool.false_eq_true,if_false]
 by_cases hh:x.held=true
 ·simp only [if_pos hh]
  exact ⟨_,_,rfl,rfl,by decide⟩
 simp only [if_neg hh]
 cases (D.needs.getD []).any (isK x.kind) with
 | false=>exact ⟨_,_,rfl,rfl,by decide⟩
 | true=>
 simp only [Bool.not_true,Bool.false_eq_true,if_false]
 by_cases hl:x.left < v1
 ·simp only [if_pos hl,decide_eq_true hl,if_true]
  exact ⟨_,_,rfl,rfl,by decide⟩
 simp only [if_neg hl,decide_eq_false hl,Bool.false_eq_true,if_false]
 have hfst:∀ {α:Type} (A B:Option α),cond (decide (qag [0,0,0,0,0]=0)) A B=A:=fun A B=>rfl
 cases hi:(u.uses.getD []).findIdx? (isK x.name) with
 | none=>
  obtain ⟨us,q1,q2⟩:=hfin ⟨x.name,v1⟩ (by unfold qe8 qak; rw [hi])
  rw [hfst]
  rw [show decide (0≤ixI none)=false from rfl]
  simp only [cond_false,q1]
  exact ⟨_,_,rfl,rfl,q2⟩
 | some i=>
  obtain ⟨y,hy,_⟩:=findIdx?_get hi
  obtain ⟨us,q1,q2⟩:=hfin ⟨x.name,qe .i64 (v1 + y.n)⟩ (by unfold qe8 qak; rw [hi]; simp only [hy])
  rw [hfst]
  rw [show decide (0≤ixI (some i))=true from qdf (some i)]
  simp only [cond_true,yv,jf hy,q1]
  exact ⟨_,_,rfl,rfl,q2⟩
end Go.Z
set_option maxHeartbeats 4000000
namespace Go.Z
open Go Go.Abs Go.W
variable {r:GReg} {e:GEv}
theorem jxh {a b c d:Int}:f51 (some [a,b,c,d])=some (qag [a,b,c,d]):=ky (by simp [SM])
theorem j98 (b:GB r) {n0 n1:List UInt8} {v0:Int} {k j:Nat} (hk:e.kind=qb0) (hn:e.names.getD []=[n0,n1]) (hv:e.values.getD []=[v0]) (hp:zq r.er n0=some k) (hq:zq r.er n1=some j):
  qfk (k9 114 r e) (jh (qe .i64) r.er e.er):=by
 rw [kn hk (by decide) (by decide),if_neg (by decide)]
 obtain ⟨u,h1,_,h3⟩:=qel hp
 obtain ⟨v,h4,_,h5⟩:=qel hq
 rw [onU (nm0 hn) hp h3,if_neg (by rw [hk]; decide),if_pos hk]
 unfold qjh
 rw [nm1 hn,hq]
 simp only [h5]
 have hA:k9 114 r e=qa (f114 e r.day r.lots r.products r.units) fun v=>some (v.1,{ r with units:=v.2 }):=rfl
 rw [hA]
 have g1:qla r.units (k:Int) v=some (some ((r.units.getD []).set k { u with partner:=v.name })):=qci (jo b.U) h1 rfl
 have g2:k ≠ j→∀ bb,qk9 (some ((r.units.getD []).set k { u with partner:=v.name })) (j:Int) ⟨u.name,u.product,u.version,u.uses,u.results,u.partner,bb,u.complaints⟩=some (some (((r.units.getD []).set k { u with partner:=v.name }).set j { v with partner:=u.name })):=by
  intro hkj bb
  exact qci (x:=v) (by rw [Option.getD_some,List.length_set]; exact jo b.U) (by rw [Option.getD_some,List.getElem?_set_ne hkj]; exact h4) rfl
 have hok:({ r with units:=some (((r.units.getD []).set k { u with partner:=v.name }).set j { v with partner:=u.name }) }:GReg).er=setUnit (setUnit r.er k { u.er with partner:=v.er.name }) j { v.er with partner:=u.er.name }:=by
  simp only [GReg.er,setUnit,Option.getD_some,List.map_set]
  rfl
 generalize hz:setUnit (setUnit r.er k { u.er with partner:=v.er.name }) j { v.er with partner:=u.er.name }=Z at hok ⊢
 generalize hX:some (some (((r.units.getD []).set k { u with partner:=v.name }).set j { v with partner:=u.name }))=X at g2
 generalize hY:some ((r.units.getD []).set k { u with partner:=v.name })=Y at g1 g2
 unfold f114
 simp only [GReg.eta,qbe hn,qa7 hn,qa,qhn (jo b.U),hp,hq,yv,jf h1,jf h4,qaz,jxh,g1]
 have e1:decide ((k:Int)=(j:Int))=decide (k=j):=by
  by_cases h:k=j
  ·rw [decide_eq_true h]; exact decide_eq_true (by omega)
  ·rw [decide_eq_false h]; exact decide_eq_false (by omega)
 have e2:u.er.product=u.product:=rfl
 have e3:v.er.product=v.product:=rfl
 have e4:u.er.version=u.version:=rfl
 have e5:v.er.version=v.version:=rfl
 have e6:u.er.shipped=u.shipped:=rfl
 have e7:v.er.shipped=v.shipped:=rfl
 have e8:u.er.partner=u.partner:=rfl
 have e9:v.er.partner=v.partner:=rfl
 simp only [e1,e2,e3,e4,e5,e6,e7,e8,e9]
 by_cases c1:k=j <;> by_cases c2:u.product=v.product <;> by_cases c3:u.version=v.version <;> cases c4:u.shipped <;> cases c5:v.shipped <;> by_cases c6:u.partner=[] <;> by_cases c7:v.partner=[] <;>
  simp only [c1,c2,c3,c6,c7,decide_true,decide_false,cond_true,cond_false,Bool.not_true,Bool.not_false,if_true,if_false,Bool.false_eq_true,ne_eq,not_true_eq_false,not_false_eq_true,or_true,true_or,or_false,false_or,or_self] <;>
  first
  | exact ⟨_,_,rfl,rfl,by decide⟩
  | (have g3:=g2 c1 false
    simp only [c2,c3,c6] at g3
    rw [g3,← hX]
    exact ⟨_,_,rfl,rfl,hok⟩)
end Go.Z
