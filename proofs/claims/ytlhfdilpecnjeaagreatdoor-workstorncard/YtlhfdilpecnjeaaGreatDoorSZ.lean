/- Chapter 10. -/
import Derived.Test.YtlhfdilpecnjeaaGreatDoorSY
set_option linter.unusedVariables false
set_option linter.unusedSimpArgs false
set_option maxRecDepth 100000
set_option maxHeartbeats 4000000
noncomputable section
open Bool renaming false->En,true->Hc
open Option renaming some->E6,none->Ha
open Nat renaming le_refl->Hb
namespace Go.Z
open Go Go.Abs Go.W
def f18 (O:GEv):Option aj:=
 qa (f50 O) fun v1=>
 qa (f34 O.number) fun v3=>
 qa (fL v1 (E6 (qd .i64 ((v3.length:Int)+1))) Ha) fun v5=>
 E6 v5
theorem W18 {O:GEv}{r}(h:f18 O=E6 r):ae pr (X pr) 18 [.agg [.int .i64 O.number,.str O.kind,sl 1 jf O.names,sl 1 jt O.values,.str O.text]]=E6 (.str r,En):=by
 unfold f18 at h;obtain⟨v1,I,h⟩:=qb h;have gE:ae pr (X pr) 50 [.agg [.int .i64 O.number,.str O.kind,sl 1 jf O.names,sl 1 jt O.values,.str O.text]]=E6 (.str v1,En):=W50 I;obtain⟨v3,h4,h⟩:=qb h;have qO:ae pr (X pr) 34 [.int .i64 O.number]=E6 (.str v3,En):=YL h4;obtain⟨v5,h6,h⟩:=qb h;have Q:v5=r:=E6.inj h;subst Q
 have this:∃hh,ai pr (X pr) 18 [.agg [.int .i64 O.number,.str O.kind,sl 1 jf O.names,sl 1 jt O.values,.str O.text]] []=E6 (.str v5,En,hh):=by
  rw[qg (show pr.br 18=E6 Zz from rfl) (by simp)];simp only[go_sem,seval,Zz,gE,qO,lU h6];exact⟨_,rfl⟩
 obtain⟨hh,this⟩:=this;exact jr rfl this (by first|rfl|simp only[go_sem,seval]) (by first|rfl|simp only[go_sem,seval])
end Go.Z
namespace Go.Z
open Go Go.Abs Go.W
theorem j1s {O:ak GEv}{J:Int}{r}(h:f15 O J=E6 r):ae aB (X aB) 15 [sl 5 vev O,.int .i64 J]=E6 (.bool r,En):=aF.ae (W15 h)
def Ai (O:ak GEv)(J:G3)(V:aj×(ak Int)×Int×Bool):Option ((aj×(ak Int)×Int×Bool)⊕(Unit⊕(aj×(ak Int)×Bool×Int))):=
 cond (decide (V.2.2.1<((O.getD []).length:Int)))
  (qa (qm (O.getD []) V.2.2.1) fun v28=>
  qa (f16 V.1 v28) fun v30=>
  cond (decide (v30.2=0))
   (cond (decide ((v30.1.length:Int)<=(V.1.length:Int)))
    (E6 (.inr (.inl ())))
    (cond V.2.2.2
     (qa (bC V.2.1 [(v30.1.length:Int)]) fun ou=>
     E6 (.inl (v30.1,ou,qd .i64 (V.2.2.1+1),Hc)))
     (cond V.2.1.isNone
      (qa (bC V.2.1 [(v30.1.length:Int)]) fun tQ=>
      E6 (.inl (v30.1,tQ,qd .i64 (V.2.2.1+1),Hc)))
      (Ha))))
   (E6 (.inr (.inl ()))))
  (E6 (.inr (.inr (V.1,V.2.1,V.2.2.2,V.2.2.1))))
def C5 (O:ak GEv)(J:G3)(V:aj×(ak Int)×Int×Bool):bn:=⟨[(0,sl 5 vev O,En),(3,.aq (.agg [.int .u16 J.x,.int .u16 J.y,.int .u16 J.z]),En),(5,.str V.1,En),(6,sl 1 jt V.2.1,V.2.2.2),(51,sl 5 vev O,En),(52,.int .i64 ((O.getD []).length:Int),En),(53,.int .i64 V.2.2.1,En)],[]⟩
def K5 (O:ak GEv)(J:G3):Unit⊕(aj×(ak Int)×Bool×Int)->jb×bn
 | .inl d=>(.ret,⟨[(4,.bool En,En)],[]⟩)| .inr d=>(.exit 0,⟨[(0,sl 5 vev O,En),(3,.aq (.agg [.int .u16 J.x,.int .u16 J.y,.int .u16 J.z]),En),(5,.str d.1,En),(6,sl 1 jt d.2.1,d.2.2.1),(51,sl 5 vev O,En),(52,.int .i64 ((O.getD []).length:Int),En),(53,.int .i64 d.2.2.2,En),(54,.bool En,En)],[]⟩)
theorem zgq (O:ak GEv)(J:G3)(V:aj×(ak Int)×Int×Bool)(r)(h:Ai O J V=E6 r):jy aB xp (C5 O J) (K5 O J) V r:=by
 unfold Ai at h;rcases qc h with⟨ot,h⟩|⟨ot,h⟩
 .obtain⟨v28,zN,h⟩:=qb h;obtain⟨v30,lV,h⟩:=qb h;have xq:ae aB (X aB) 16 [.str V.1,.agg [.int .i64 v28.number,.str v28.kind,sl 1 jf v28.names,sl 1 jt v28.values,.str v28.text]]=E6 (.aJ [.str v30.1,.int .i64 v30.2],En):=W16 lV;rcases qc h with⟨Cg,h⟩|⟨Cg,h⟩
  .rcases qc h with⟨zT,h⟩|⟨zT,h⟩
   .cases h;exact qu (by simp only[go_sem,seval,xp,C5,ot,jm zN,xq,Cg,zT,K5]<;>rfl)
   .rcases qc h with⟨zU,h⟩|⟨zU,h⟩
    .obtain⟨ou,xr,h⟩:=qb h;cases h;exact kp (bP:=⟨[(0,sl 5 vev O,En),(3,.aq (.agg [.int .u16 J.x,.int .u16 J.y,.int .u16 J.z]),En),(5,.str v30.1,En),(6,sl 1 jt ou,Hc),(51,sl 5 vev O,En),(52,.int .i64 ((O.getD []).length:Int),En),(53,.int .i64 (qd .i64 (V.2.2.1+1)),En)],[]⟩) (by simp only[go_sem,seval,xp,C5,ot,jm zN,xq,Cg,zT,zU,VM xr]<;>rfl) (jQ (Hb _))
    .rcases qc h with⟨KF,h⟩|⟨KF,h⟩
     .obtain⟨tQ,h39,h⟩:=qb h;cases h;exact kp (bP:=⟨[(0,sl 5 vev O,En),(3,.aq (.agg [.int .u16 J.x,.int .u16 J.y,.int .u16 J.z]),En),(5,.str v30.1,En),(6,sl 1 jt tQ,Hc),(51,sl 5 vev O,En),(52,.int .i64 ((O.getD []).length:Int),En),(53,.int .i64 (qd .i64 (V.2.2.1+1)),En)],[]⟩) (by simp only[go_sem,seval,xp,C5,ot,jm zN,xq,Cg,zT,zU,KF,VN h39 KF]<;>rfl) (jQ (Hb _))
     .cases h
  .cases h;exact qu (by simp only[go_sem,seval,xp,C5,ot,jm zN,xq,Cg,K5]<;>rfl)
 .cases h;exact qu (by simp only[go_sem,seval,xp,C5,ot,K5]<;>rfl)
theorem zii (O:ak GEv)(J:G3){V:aj×(ak Int)×Int×Bool}{d}(h:bq (Ai O J) V=E6 d):X aB (.loop xp) (C5 O J V)=E6 (K5 O J d):=lT (zgq O J) (fun d=>by rcases d with d|d<;>(intro hh;cases hh)) h
def Aj (O:ak GEv)(J:G3)(d43:aj×(ak Int)×Bool×Int)(iV:Int)(s1:Int×Int):Option ((Int×Int)⊕((Int×Int))):=
 cond (decide (s1.2<((d43.2.1.getD []).length:Int)))
  (qa (qm (d43.2.1.getD []) s1.2) fun GR=>
  cond (decide (GR<=iV))
   (E6 (.inl (qd .i64 (s1.1+1),qd .i64 (s1.2+1))))
   (E6 (.inl (s1.1,qd .i64 (s1.2+1)))))
  (E6 (.inr (s1.1,s1.2)))
def K6 (O:ak GEv)(J:G3)(d43:aj×(ak Int)×Bool×Int)(iV:Int)(s1:Int×Int):bn:=⟨[(0,sl 5 vev O,En),(3,.aq (.agg [.int .u16 J.x,.int .u16 J.y,.int .u16 J.z]),En),(5,.str d43.1,En),(6,sl 1 jt d43.2.1,d43.2.2.1),(11,.int .i64 iV,En),(12,.int .i64 s1.1,En),(86,sl 1 jt d43.2.1,En),(87,.int .i64 ((d43.2.1.getD []).length:Int),En),(88,.int .i64 s1.2,En)],[]⟩
def ZA (O:ak GEv)(J:G3)(d43:aj×(ak Int)×Bool×Int)(iV:Int)(d:(Int×Int)):jb×bn:=(.exit 2,⟨[(0,sl 5 vev O,En),(3,.aq (.agg [.int .u16 J.x,.int .u16 J.y,.int .u16 J.z]),En),(5,.str d43.1,En),(6,sl 1 jt d43.2.1,d43.2.2.1),(11,.int .i64 iV,En),(12,.int .i64 d.1,En),(86,sl 1 jt d43.2.1,En),(87,.int .i64 ((d43.2.1.getD []).length:Int),En),(88,.int .i64 d.2,En),(89,.bool En,En)],[]⟩)
theorem ziz (O:ak GEv)(J:G3)(d43:aj×(ak Int)×Bool×Int)(iV:Int)(s1:Int×Int)(r)(h:Aj O J d43 iV s1=E6 r):jy aB C6 (K6 O J d43 iV) (ZA O J d43 iV) s1 r:=by
 unfold Aj at h;rcases qc h with⟨GX,h⟩|⟨GX,h⟩
 .obtain⟨GR,PF,h⟩:=qb h;rcases qc h with⟨ZB,h⟩|⟨ZB,h⟩
  .cases h;exact kp (bP:=⟨[(0,sl 5 vev O,En),(3,.aq (.agg [.int .u16 J.x,.int .u16 J.y,.int .u16 J.z]),En),(5,.str d43.1,En),(6,sl 1 jt d43.2.1,d43.2.2.1),(11,.int .i64 iV,En),(12,.int .i64 (qd .i64 (s1.1+1)),En),(86,sl 1 jt d43.2.1,En),(87,.int .i64 ((d43.2.1.getD []).length:Int),En),(88,.int .i64 (qd .i64 (s1.2+1)),En)],[]⟩) (by simp only[go_sem,seval,C6,K6,GX,jm PF,ZB]<;>rfl) (jQ (Hb _))
  .cases h;exact kp (bP:=⟨[(0,sl 5 vev O,En),(3,.aq (.agg [.int .u16 J.x,.int .u16 J.y,.int .u16 J.z]),En),(5,.str d43.1,En),(6,sl 1 jt d43.2.1,d43.2.2.1),(11,.int .i64 iV,En),(12,.int .i64 s1.1,En),(86,sl 1 jt d43.2.1,En),(87,.int .i64 ((d43.2.1.getD []).length:Int),En),(88,.int .i64 (qd .i64 (s1.2+1)),En)],[]⟩) (by simp only[go_sem,seval,C6,K6,GX,jm PF,ZB]<;>rfl) (jQ (Hb _))
 .cases h;exact qu (by simp only[go_sem,seval,C6,K6,GX,ZA]<;>rfl)
theorem zig (O:ak GEv)(J:G3)(d43:aj×(ak Int)×Bool×Int)(iV:Int){s1:Int×Int}{d}(h:bq (Aj O J d43 iV) s1=E6 d):X aB (.loop C6) (K6 O J d43 iV s1)=E6 (ZA O J d43 iV d):=lT (ziz O J d43 iV) (fun d hh=>by cases hh) h
end Go.Z
namespace Go.Z
open Go Go.Abs Go.W
theorem zdx {O:GEv}{r}(h:f18 O=E6 r):ae aB (X aB) 18 [aE O]=E6 (.str r,En):=aF.ae (W18 h)
section
variable (O:ak GEv)(J:G3)(log:aj)(ends:ak Int)(w:Bool)(q:Nat)
def C7 (m:ak GEv)(x:SS×Int):Option ((SS×Int)⊕(SS×Int)):=
 cond (decide (x.2<((m.getD []).length:Int)))
  (cond (Zx x.1)
   (qa (qm (m.getD []) x.2) fun e=>
   qa (f18 e) fun t=>
   qa (vM x.1.v t) fun d=>
   cond (decide (d.2.1=0)) (E6 (.inl (x.1.next d.2.2,qd .i64 (x.2+1)))) Ha)
   Ha)
  (E6 (.inr x))
def Qa (m:ak GEv)(x:SS×Int):bn:=⟨[(0,sl 5 vev O,En),(3,.aq (.agg [.int .u16 J.x,.int .u16 J.y,.int .u16 J.z]),En),(5,.str log,En),(6,sl 1 jt ends,w),(18,.ptr x.1.p 0,En),(20,.ptr q 0,En),(150,sl 5 vev m,En),(151,Iv ((m.getD []).length:Int),En),(152,Iv x.2,En)],x.1.H⟩
def jra (m:ak GEv)(x:SS×Int):jb×bn:=(.exit 4,⟨[(0,sl 5 vev O,En),(3,.aq (.agg [.int .u16 J.x,.int .u16 J.y,.int .u16 J.z]),En),(5,.str log,En),(6,sl 1 jt ends,w),(18,.ptr x.1.p 0,En),(20,.ptr q 0,En),(150,sl 5 vev m,En),(151,Iv ((m.getD []).length:Int),En),(152,Iv x.2,En),(153,.bool En,En)],x.1.H⟩)
theorem zj6 (m:ak GEv)(x:SS×Int)(r)(h:C7 m x=E6 r):jy aB K7 (Qa O J log ends w q m) (jra O J log ends w q m) x r:=by
 obtain⟨S,i⟩:=x;unfold C7 at h;rcases qc h with⟨Y,h⟩|⟨Y,h⟩
 .rcases qc h with⟨hk,h⟩|⟨_,h⟩
  .have hS:S.ok:=jic.1 hk;obtain⟨e,I,h⟩:=qb h;obtain⟨t,h3,h⟩:=qb h;obtain⟨d,h4,h⟩:=qb h;have w3:=zdx h3;obtain⟨hh,w5,wa,k1,k2,k3⟩:=P9 hS h4;rcases qc h with⟨h6,h⟩|⟨h6,h⟩
   .cases h;exact kp (bP:=Qa O J log ends w q m (S.next d.2.2,qd .i64 (i+1))) (by simp only[go_sem,seval,K7,Qa,Y,jm I,w3,w5,wa,k3,h6]<;>rfl) (gcS hS d.2.2)
   .cases h
  .cases h
 .cases h;exact qu (by simp only[go_sem,seval,K7,Qa,Y,jra]<;>rfl)
def Hp (ls:ak aj)(i:Int):Option (Int⊕Int):=
 cond (decide (i<((ls.getD []).length:Int))) (qa (qm (ls.getD []) i) fun _=>E6 (.inl (qd .i64 (i+1)))) (E6 (.inr i))
def Qb (p:Nat)(H:qf)(ls:ak aj)(i:Int):bn:=⟨[(0,sl 5 vev O,En),(3,.aq (.agg [.int .u16 J.x,.int .u16 J.y,.int .u16 J.z]),En),(5,.str log,En),(6,sl 1 jt ends,w),(18,.ptr p 0,En),(20,.ptr q 0,En),(166,sl 1 jf ls,En),(167,Lv ls,En),(168,Iv i,En)],H⟩
def jq8 (p:Nat)(H:qf)(ls:ak aj)(i:Int):jb×bn:=(.exit 6,⟨[(0,sl 5 vev O,En),(3,.aq (.agg [.int .u16 J.x,.int .u16 J.y,.int .u16 J.z]),En),(5,.str log,En),(6,sl 1 jt ends,w),(18,.ptr p 0,En),(20,.ptr q 0,En),(166,sl 1 jf ls,En),(167,Lv ls,En),(168,Iv i,En),(169,.bool En,En)],H⟩)
end
def jrk (o v:Option HV)(t:aj):Prop:=∃a c,vM o t=E6 (a,c,o)/\vM v t=E6 (a,c,v)
theorem zci (O:ak GEv)(J:G3)(log:aj)(ends:ak Int)(w:Bool){S A:SS}(hS:S.ok)(hA:(A.at S.H).ok){ls:ak aj}(hq:∀t∈ls.getD [],jrk S.v A.v t)(i:Int)(r)(h:Hp ls i=E6 r):
  jy aB K8 (Qb O J log ends w A.p S.p S.H ls) (jq8 O J log ends w A.p S.p S.H ls) i r:=by
 unfold Hp at h;rcases qc h with⟨Y,h⟩|⟨Y,h⟩
 .obtain⟨t,I,h⟩:=qb h;cases h
  obtain⟨a,c,g1,g2⟩:=hq t (by
   unfold qm at I;split at I
   ·exact List.mem_of_getElem? I
   ·cases I)
  obtain⟨hh,w5,wa,_,_,_⟩:=P9 hS g1;rw[show(S.next ((a,c,S.v):aj×Int×Option HV).2.2).H=S.H by rw[show S.next ((a,c,S.v):aj×Int×Option HV).2.2=S from q4v hS]]at wa;obtain⟨Qc,w6,wb,_,_,_⟩:=P9 (S:=A.at S.H) hA (q:=(a,c,A.v)) g2;rw[show((A.at S.H).next ((a,c,A.v):aj×Int×Option HV).2.2).H=S.H by rw[show(A.at S.H).next ((a,c,A.v):aj×Int×Option HV).2.2=A.at S.H from q4v hA];rfl]at wb;have w6:ai aB (X aB) 10 [.ptr A.p 0,.str t] S.H=E6 (.aJ [.str a,Iv c],En,Qc):=w6;have wb:qy S.H.length (.aJ [.str a,Iv c]) Qc=S.H:=wb;have w5:ai aB (X aB) 10 [.ptr S.p 0,.str t] S.H=E6 (.aJ [.str a,Iv c],En,hh):=w5;have wa:qy S.H.length (.aJ [.str a,Iv c]) hh=S.H:=wa;exact kp (bP:=Qb O J log ends w A.p S.p S.H ls (qd .i64 (i+1))) (by simp only[go_sem,seval,K8,Qb,Y,jm I,w5,wa,w6,wb]<;>rfl) (jQ (Hb _))
 .cases h;exact qu (by simp only[go_sem,seval,K8,Qb,Y,jq8]<;>rfl)
def ZC (h:qf):Option AVal->Option bu
 |some (.list _ 1 xs)=>(match Az xs with
  |some s=>val h (.str s)
  |none=>Ha)
 |_=>Ha
@[go_sem] theorem j4v {p:j8}{xc:XC}{h0:Nat}{al:ak Nat}{e:Env}{h:qf}{x:ju}:qe p xc h0 al e h (.ew x)=ZC h (qh e x):=by
 show(match qh e x with
  |some (.list _ 1 xs)=>(match Az xs with
   |some s=>val h (.str s)
   |none=>Ha)
  |_=>Ha)=_
 unfold ZC;rfl
@[go_sem] theorem zaa {h:qf}{b:Bool}{n:Int}:ZC h (E6 (.list b 1 [.int .u8 n]))=E6 ⟨.str [UInt8.ofNat n.toNat],En,Ha,h⟩:=rfl
@[go_sem] theorem j5n {n h b o}:Jt 1 n h (E6 (.ptr b o))=E6 ⟨.bool n,En,Ha,h⟩:=by cases n<;>rfl
def Chg (p:j8)(log:aj)(k c:Int):Prop:=∃p1 p2 s1 s2 r1 r2 r3,fL log Ha (E6 k)=E6 p1/\fL log (E6 (qd .i64 (k+1))) Ha=E6 p2/\gZ p1 [UInt8.ofNat c.toNat]=E6 s1/\gZ s1 p2=E6 s2/\ae p (X p) 17 [.str s2]=E6 (.aJ [sl 5 vev r1,Iv r2,Iv r3],En)/\decide (r3=0)=En/\decide (r2=(log.length:Int))=En
def ZD (p:j8)(log:aj)(ends:ak Int)(r fr:Int):Prop:=∃e1 q1 q2 q3 r1 r2,fL log Ha (E6 fr)=E6 q1/\qm (ends.getD []) r=E6 e1/\fL log (E6 e1) Ha=E6 q2/\gZ q1 q2=E6 q3/\ae p (X p) 17 [.str q3]=E6 (.aJ [sl 5 vev r1,Iv r2,Iv 11],En)
def gy:aj:=[115,104,105,112,112,101,100,44,104,101,108,100,44,115,116,111,99,107,32,99,111,110,101,44,118,101,114,115,105,111,110,32,98,111,120,44,108,111,116,115,32,117,49,44,109,105,115,115,105,110,103,32,117,49,44,117,110,105,116,115,32,99,111,110,101,95,49]
abbrev vN (a:G3):AVal:=.agg [.int .u16 a.x,.int .u16 a.y,.int .u16 a.z]
theorem W4g {p:j8}{O:ak GEv}{J:G3}{log cut:aj}{ends:ak Int}{w:Bool}{n1 n2 n3 n4 size whole ZE z k z1:Int}{K9 pre m:ak GEv}{P1 P2 P3:Nat}{H1 H2 H3:qf}{ls:ak aj}{b:UInt8}
  (hf:p.br 4=E6 c4)
  (jG:ae p (X p) 15 [sl 5 vev O,.int .i64 20]=E6 (.bool Hc,En))
  (h4:decide (((O.getD []).length:Int)=0)=En)
  (wA:X p (.loop xp) ⟨[(0,sl 5 vev O,En),(3,.aq (vN J),En),(5,.str [],En),(6,.list Hc 0 [],En),(51,sl 5 vev O,En),(52,.int .i64 ((O.getD []).length:Int),En),(53,.int .i64 0,En)],[]⟩=E6 (.exit 0,⟨[(0,sl 5 vev O,En),(3,.aq (vN J),En),(5,.str log,En),(6,sl 1 jt ends,w),(51,sl 5 vev O,En),(52,.int .i64 ((O.getD []).length:Int),En),(53,.int .i64 n1,En),(54,.bool En,En)],[]⟩))
  (pD:jT (qd .i64 J.x) (qd .i64 ((log.length:Int)+1))=E6 size)
  (wB:X p (.loop C6) ⟨[(0,sl 5 vev O,En),(3,.aq (vN J),En),(5,.str log,En),(6,sl 1 jt ends,w),(11,.int .i64 size,En),(12,.int .i64 0,En),(86,sl 1 jt ends,En),(87,.int .i64 ((ends.getD []).length:Int),En),(88,.int .i64 0,En)],[]⟩=E6 (.exit 2,⟨[(0,sl 5 vev O,En),(3,.aq (vN J),En),(5,.str log,En),(6,sl 1 jt ends,w),(11,.int .i64 size,En),(12,.int .i64 whole,En),(86,sl 1 jt ends,En),(87,.int .i64 ((ends.getD []).length:Int),En),(88,.int .i64 n2,En),(89,.bool En,En)],[]⟩))
  (tR:fL log Ha (E6 size)=E6 cut)
  (pA:ae p (X p) 17 [.str cut]=E6 (.aJ [sl 5 vev K9,.int .i64 ZE,.int .i64 z],En)) (hz:z=0\/z=29)
  (pE:jB O Ha (E6 whole)=E6 pre) (tI:ae p (X p) 11 [sl 5 vev K9,sl 5 vev pre]=E6 (.bool Hc,En))
  (lY:ai p (X p) 7 [.str cut] []=E6 (.aJ [.ptr P1 0,.int .i64 0],En,H1)) (xt:qy 0 (.aJ [.ptr P1 0,.int .i64 0]) H1=H1)
  (lZ:ai p (X p) 7 [.str log] H1=E6 (.aJ [.ptr P2 0,.int .i64 0],En,H2)) (xu:qy H1.length (.aJ [.ptr P2 0,.int .i64 0]) H2=H2)
  (hm:jB O (E6 whole) Ha=E6 m)
  (wC:X p (.loop K7) ⟨[(0,sl 5 vev O,En),(3,.aq (vN J),En),(5,.str log,En),(6,sl 1 jt ends,w),(18,.ptr P1 0,En),(20,.ptr P2 0,En),(150,sl 5 vev m,En),(151,.int .i64 ((m.getD []).length:Int),En),(152,.int .i64 0,En)],H2⟩=E6 (.exit 4,⟨[(0,sl 5 vev O,En),(3,.aq (vN J),En),(5,.str log,En),(6,sl 1 jt ends,w),(18,.ptr P3 0,En),(20,.ptr P2 0,En),(150,sl 5 vev m,En),(151,.int .i64 ((m.getD []).length:Int),En),(152,.int .i64 n3,En),(153,.bool En,En)],H3⟩))
  (vO:ae p (X p) 19 [.str gy,.str [44]]=E6 (sl 1 jf ls,En))
  (wD:X p (.loop K8) ⟨[(0,sl 5 vev O,En),(3,.aq (vN J),En),(5,.str log,En),(6,sl 1 jt ends,w),(18,.ptr P3 0,En),(20,.ptr P2 0,En),(166,sl 1 jf ls,En),(167,.int .i64 ((ls.getD []).length:Int),En),(168,.int .i64 0,En)],H3⟩=E6 (.exit 6,⟨[(0,sl 5 vev O,En),(3,.aq (vN J),En),(5,.str log,En),(6,sl 1 jt ends,w),(18,.ptr P3 0,En),(20,.ptr P2 0,En),(166,sl 1 jf ls,En),(167,.int .i64 ((ls.getD []).length:Int),En),(168,.int .i64 n4,En),(169,.bool En,En)],H3⟩))
  (qF:ai p (X p) 13 [.ptr P3 0] H3=E6 (.str log,En,H3)) (wz:∀v,qy H3.length v H3=H3)
  (hk:jT (qd .i64 J.y) (log.length:Int)=E6 k) (gh:jT J.z 200=E6 z1) (hb:qm log k=E6 b)
  (hX:decide ((b.toNat:Int)=10)=En->decide (qd .u8 (qd .u16 (32+z1))=(b.toNat:Int))=En->Chg p log k (qd .u8 (qd .u16 (32+z1))))
  (hY:decide ((1:Int)<((O.getD []).length:Int))=Hc->∃r,jT (qd .i64 J.z) (qd .i64 (((O.getD []).length:Int)-1))=E6 r/\((decide (0<r)=En/\ZD p log ends r 0)\/(decide (0<r)=Hc/\∃fr,qm (ends.getD []) (qd .i64 (r-1))=E6 fr/\ZD p log ends r fr)))
  (pz:ae p (X p) 5 []=E6 (.bool Hc,En)):
  ∃hh,ai p (X p) 4 [sl 5 vev O,vN J] []=E6 (.bool Hc,En,hh):=by
 rw[qg hf (by simp)];unfold gy at vO;unfold vN at *;rcases hz with rfl|rfl
 all_goals
  cases g1:decide ((b.toNat:Int)=10)with
  |true=>
   cases g3:decide ((1:Int)<((O.getD []).length:Int))with
   |false=>
    simp only[go_sem,seval,c4,jG,h4,wA,zz pD,wB,y8 tR,pA,vm pE,tI,lY,xt,lZ,xu,tD hm,wC,vO,wD,qF,wz,zz hk,zz gh,nE hb,g1,g3,pz];exact⟨_,rfl⟩
   |true=>
    obtain⟨r,Q,hc⟩:=hY g3;rcases hc with⟨g4,e1,q1,q2,q3,x1,x2,k1,k2,k3,k4,k5⟩|⟨g4,fr,k0,e1,q1,q2,q3,x1,x2,k1,k2,k3,k4,k5⟩
    .simp only[go_sem,seval,c4,jG,h4,wA,zz pD,wB,y8 tR,pA,vm pE,tI,lY,xt,lZ,xu,tD hm,wC,vO,wD,qF,wz,zz hk,zz gh,nE hb,g1,g3,zz Q,g4,y8 k1,jm k2,lU k3,ym k4,k5,pz];exact⟨_,rfl⟩
    .simp only[go_sem,seval,c4,jG,h4,wA,zz pD,wB,y8 tR,pA,vm pE,tI,lY,xt,lZ,xu,tD hm,wC,vO,wD,qF,wz,zz hk,zz gh,nE hb,g1,g3,zz Q,g4,jm k0,y8 k1,jm k2,lU k3,ym k4,k5,pz];exact⟨_,rfl⟩
  |false=>
   cases g2:decide (qd .u8 (qd .u16 (32+z1))=(b.toNat:Int))with
   |true=>
    cases g3:decide ((1:Int)<((O.getD []).length:Int))with
    |false=>
     simp only[go_sem,seval,c4,jG,h4,wA,zz pD,wB,y8 tR,pA,vm pE,tI,lY,xt,lZ,xu,tD hm,wC,vO,wD,qF,wz,zz hk,zz gh,nE hb,g1,g2,g3,pz];exact⟨_,rfl⟩
    |true=>
     obtain⟨r,Q,hc⟩:=hY g3;rcases hc with⟨g4,e1,q1,q2,q3,x1,x2,k1,k2,k3,k4,k5⟩|⟨g4,fr,k0,e1,q1,q2,q3,x1,x2,k1,k2,k3,k4,k5⟩
     .simp only[go_sem,seval,c4,jG,h4,wA,zz pD,wB,y8 tR,pA,vm pE,tI,lY,xt,lZ,xu,tD hm,wC,vO,wD,qF,wz,zz hk,zz gh,nE hb,g1,g2,g3,zz Q,g4,y8 k1,jm k2,lU k3,ym k4,k5,pz];exact⟨_,rfl⟩
     .simp only[go_sem,seval,c4,jG,h4,wA,zz pD,wB,y8 tR,pA,vm pE,tI,lY,xt,lZ,xu,tD hm,wC,vO,wD,qF,wz,zz hk,zz gh,nE hb,g1,g2,g3,zz Q,g4,jm k0,y8 k1,jm k2,lU k3,ym k4,k5,pz];exact⟨_,rfl⟩
   |false=>
    obtain⟨p1,p2,s1,s2,y1,y2,y3,j1,j2,j3,j4,j5,j6,j7⟩:=hX g1 g2
    cases g3:decide ((1:Int)<((O.getD []).length:Int))with
    |false=>
     simp only[go_sem,seval,c4,jG,h4,wA,zz pD,wB,y8 tR,pA,vm pE,tI,lY,xt,lZ,xu,tD hm,wC,vO,wD,qF,wz,zz hk,zz gh,nE hb,g1,g2,y8 j1,lU j2,ym j3,ym j4,j5,j6,j7,g3,pz];exact⟨_,rfl⟩
    |true=>
     obtain⟨r,Q,hc⟩:=hY g3;rcases hc with⟨g4,e1,q1,q2,q3,x1,x2,k1,k2,k3,k4,k5⟩|⟨g4,fr,k0,e1,q1,q2,q3,x1,x2,k1,k2,k3,k4,k5⟩
     .simp only[go_sem,seval,c4,jG,h4,wA,zz pD,wB,y8 tR,pA,vm pE,tI,lY,xt,lZ,xu,tD hm,wC,vO,wD,qF,wz,zz hk,zz gh,nE hb,g1,g2,y8 j1,lU j2,ym j3,ym j4,j5,j6,j7,g3,zz Q,g4,y8 k1,jm k2,lU k3,ym k4,k5,pz];exact⟨_,rfl⟩
     .simp only[go_sem,seval,c4,jG,h4,wA,zz pD,wB,y8 tR,pA,vm pE,tI,lY,xt,lZ,xu,tD hm,wC,vO,wD,qF,wz,zz hk,zz gh,nE hb,g1,g2,y8 j1,lU j2,ym j3,ym j4,j5,j6,j7,g3,zz Q,g4,jm k0,y8 k1,jm k2,lU k3,ym k4,k5,pz];exact⟨_,rfl⟩
end Go.Z
namespace Go.Z
open Go Go.Abs Go.W
theorem j1r {n k:Nat}:Nat.blt (n+k) n=En:=by
 rw[Bool.eq_false_iff];intro h;have:=Nat.blt_eq.mp h;omega
theorem W4t {O:ak GEv}{J:G3}{log cut:aj}{ends:ak Int}{w:Bool}{n1 n2 n3 n4 size whole ZE z k z1:Int}{K9 pre m:ak GEv}{o1 o2:Option HV}{T:SS}{m0 m1:Nat}{ls:ak aj}{b:UInt8}
  (fK:f15 O 20=E6 Hc) (h4:decide (((O.getD []).length:Int)=0)=En)
  (h41:bq (Ai O J) ([],Ha,0,En)=E6 (.inr (log,ends,w,n1)))
  (pD:jT (qd .i64 J.x) (qd .i64 ((log.length:Int)+1))=E6 size)
  (h59:bq (Aj O J (log,ends,w,n1) size) (0,0)=E6 (whole,n2))
  (tR:fL log Ha (E6 size)=E6 cut) (h63:f17 cut=E6 (K9,ZE,z)) (hz:z=0\/z=29)
  (pE:jB O Ha (E6 whole)=E6 pre) (xr:f11 K9 pre=E6 Hc)
  (A2:f7 cut=E6 (0,E6 o1)) (Ni:f7 log=E6 (0,E6 o2))
  (hm:jB O (E6 whole) Ha=E6 m)
  (hC:bq (C7 m) ((SS.open [] o1).at (SS.open (SS.open [] o1).H o2).H,0)=E6 (T,n3))
  (oD:Sep m0 m1 T (SS.open (SS.open [] o1).H o2))
  (h44:f19 gy [44]=E6 ls) (hD:bq (Hp ls) 0=E6 n4) (hq:∀t∈ls.getD [],jrk T.v o2 t)
  (jJ:Zy T.v=E6 log)
  (hk:jT (qd .i64 J.y) (log.length:Int)=E6 k) (gh:jT J.z 200=E6 z1) (hb:qm log k=E6 b)
  (hX:(b.toNat:Int)≠10->qd .u8 (qd .u16 (32+z1))≠(b.toNat:Int)->∃p1 p2 s1 s2 r,fL log Ha (E6 k)=E6 p1/\fL log (E6 (qd .i64 (k+1))) Ha=E6 p2/\gZ p1 [UInt8.ofNat (qd .u8 (qd .u16 (32+z1))).toNat]=E6 s1/\gZ s1 p2=E6 s2/\f17 s2=E6 r/\r.2.2≠0/\r.2.1≠(log.length:Int))
  (hY:(1:Int)<((O.getD []).length:Int)->∃r,jT (qd .i64 J.z) (qd .i64 (((O.getD []).length:Int)-1))=E6 r/\∃fr e1 q1 q2 q3 x,((¬0<r/\fr=0)\/(0<r/\qm (ends.getD []) (qd .i64 (r-1))=E6 fr))/\fL log Ha (E6 fr)=E6 q1/\qm (ends.getD []) r=E6 e1/\fL log (E6 e1) Ha=E6 q2/\gZ q1 q2=E6 q3/\f17 q3=E6 x/\x.2.2=11):
  ae aB (X aB) 4 [sl 5 vev O,.agg [.int .u16 J.x,.int .u16 J.y,.int .u16 J.z]]=E6 (.bool Hc,En):=by
 suffices this:∃hh,ai aB (X aB) 4 [sl 5 vev O,.agg [.int .u16 J.x,.int .u16 J.y,.int .u16 J.z]] []=E6 (.bool Hc,En,hh) by
  obtain⟨hh,this⟩:=this;exact jr rfl this (by first|rfl|simp only[go_sem,seval]) (by first|rfl|simp only[go_sem,seval])
 have k1:(SS.open [] o1).ok:=SS.iU rfl o1;have k2:(SS.open (SS.open [] o1).H o2).ok:=SS.iU (SS.jI k1) o2;obtain⟨TJ,v1,v2⟩:=jjd (H:=[]) rfl A2;have v2:TJ=(SS.open [] o1).H:=v2;subst v2;obtain⟨Qc,v3,v4⟩:=jjd (H:=(SS.open [] o1).H) (SS.jI k1) Ni;have v4:Qc=(SS.open (SS.open [] o1).H o2).H:=v4;subst v4;have wA:∃d,d=(SS.open (SS.open [] o1).H o2):=⟨_,rfl⟩;obtain⟨A,hA⟩:=wA;rw[<-hA]at oD hC v3 k2;have qF:=zjw oD.ok jJ;have wz:∀v,qy T.H.length v T.H=T.H:=fun v=>z9 rfl;have wC:=z8 (zj6 O J log ends w A.p m) hC
 have hAv:A.v=o2:=by rw[hA];rfl
 have hAp:pO (SS.open [] o1).H.length o2=A.p:=by rw[hA];rfl
 have wD:=z8 (zci O J log ends w oD.ok oD.dS (ls:=ls) (by rw[hAv];exact hq)) hD;refine W4g (p:=aB) (m:=m) (P1:=(SS.open [] o1).p) (P2:=A.p) (P3:=T.p) (H1:=(SS.open [] o1).H) (H2:=A.H) (H3:=T.H) rfl (j1s fK) h4 (zii O J h41) pD (zig O J (log,ends,w,n1) size h59) tR (KH h63) hz pE (zcy xr) v1 (P8 rfl) ?_ ?_ hm wC (zO h44) wD qF wz hk gh hb ?_ ?_ (W5 rfl)
 .rw[<-hAp];exact v3
 .rw[<-hAp];refine P8 ?_;cases o2<;>(simp only[Abs.below,qo,pO,j1r];rfl)
 .intro g1 g2;obtain⟨p1,p2,s1,s2,r,j1,j2,j3,j4,j5,j6,j7⟩:=hX (of_decide_eq_false g1) (of_decide_eq_false g2);exact⟨p1,p2,s1,s2,r.1,r.2.1,r.2.2,j1,j2,j3,j4,KH j5,decide_eq_false j6,decide_eq_false j7⟩
 .intro g3;obtain⟨r,Q,fr,e1,q1,q2,q3,x,hc,j1,j2,j3,j4,j5,j6⟩:=hY (of_decide_eq_true g3);have pA:=KH j5;rw[j6]at pA;have pS:ZD aB log ends r fr:=⟨e1,q1,q2,q3,x.1,x.2.1,j1,j2,j3,j4,pA⟩;refine⟨r,Q,?_⟩;rcases hc with⟨g4,rfl⟩|⟨g4,k0⟩
  .exact .inl ⟨decide_eq_false g4,pS⟩
  .exact .inr ⟨decide_eq_true g4,fr,k0,pS⟩
end Go.Z
end
