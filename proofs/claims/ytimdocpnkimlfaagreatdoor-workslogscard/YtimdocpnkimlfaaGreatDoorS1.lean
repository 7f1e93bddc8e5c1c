/- Chapter 10. -/
import Derived.Test.YtimdocpnkimlfaaGreatDoorW20
set_option linter.unusedVariables false
set_option linter.unusedSimpArgs false
set_option maxRecDepth 100000
set_option maxHeartbeats 4000000
noncomputable section
open Bool renaming false→I,true→Eb
open Option renaming some→Ea,none→Ek
open Nat renaming le_refl→Ec
namespace Go.Z
open Go Go.Abs Go.W
def ud (s0:Int×(List UInt8)):Option ((Int×(List UInt8))⊕((Int×(List UInt8)))):=
 cond (decide (0<s0.1))
  (qe (nU s0.1 10) fun v21=>
  qe (kr ((Utf8.encode (qh .i32 (qh .i64 (48+v21)))).data.toList) s0.2) fun v23=>
  qe (tZ .i64 s0.1 10) fun v25=>
  Ea (.inl (v25,v23)))
  (Ea (.inr (s0.1,s0.2)))
def Jb (s0:Int×(List UInt8)):aV:=⟨[(0,.int .i64 s0.1,I),(3,.str s0.2,I)],[]⟩
def QU (d:(Int×(List UInt8))):je×aV:=(.exit 0,⟨[(0,.int .i64 d.1,I),(3,.str d.2,I),(18,.bool I,I)],[]⟩)
theorem jkt (s0:Int×(List UInt8))(r)(h:ud s0=Ea r):zd pr B6 (Jb) (QU) s0 r:=by
 unfold ud at h
 rcases qc h with⟨jW,h⟩|⟨jW,h⟩
 ·obtain⟨v21,gj,h⟩:=qa h
  obtain⟨v23,lg,h⟩:=qa h
  obtain⟨v25,ez,h⟩:=qa h
  cases h
  exact jp (aN:=⟨[(0,.int .i64 v25,I),(3,.str v23,I)],[]⟩) (by simp only[go_sem,seval,B6,Jb,jW,IV gj,yr lg,q1l ez]<;>rfl) (ju (Ec _))
 ·cases h
  exact qy (by simp only[go_sem,seval,B6,Jb,jW,QU]<;>rfl)
theorem jgq {s0:Int×(List UInt8)}{d}(h:bq (ud) s0=Ea d):X pr (.loop B6) (Jb s0)=Ea (QU d):=ki (jkt) (fun d hh=>by cases hh) h
def FA (a0:Int):Option (List UInt8):=
 cond (decide (a0<0))
  (Ek)
  (qe (nU a0 10) fun v2=>
  qe (tZ .i64 a0 10) fun v4=>
  qe (bq (ud) (v4,(Utf8.encode (qh .i32 (qh .i64 (48+v2)))).data.toList)) fun d27=>
  Ea d27.2)
theorem jzq {a0:Int}{r}(h:FA a0=Ea r):ae pr (X pr) 155 [.int .i64 a0]=Ea (.str r,I):=by
 unfold FA at h
 rcases qc h with⟨h1,h⟩|⟨h1,h⟩
 ·cases h
 ·obtain⟨v2,h3,h⟩:=qa h
  obtain⟨v4,h5,h⟩:=qa h
  obtain⟨d27,dW,h⟩:=qa h
  have QV:X pr (.loop B6) ⟨[(0,.int .i64 v4,I),(3,.str ((Utf8.encode (qh .i32 (qh .i64 (48+v2)))).data.toList),I)],[]⟩=Ea (.exit 0,⟨[(0,.int .i64 d27.1,I),(3,.str d27.2,I),(18,.bool I,I)],[]⟩):=jgq dW
  have hr:d27.2=r:=Ea.inj h
  subst hr
  have this:∃hh,ah pr (X pr) 155 [.int .i64 a0] []=Ea (.str d27.2,I,hh):=by
   rw[qn (show pr.bn 155=Ea pE from rfl) (by simp)]
   simp only[go_sem,seval,pE,h1,IV h3,q1l h5,QV]
   exact⟨_,rfl⟩
  obtain⟨hh,this⟩:=this
  exact qm rfl this (by first|rfl|simp only[go_sem,seval]) (by first|rfl|simp only[go_sem,seval])
def f98 (a0:Int):Option (List UInt8):=
 qe (FA a0) fun v1=>
 Ea v1
theorem QW {a0:Int}{r}(h:f98 a0=Ea r):ae pr (X pr) 98 [.int .i64 a0]=Ea (.str r,I):=by
 unfold f98 at h
 obtain⟨v1,h2,h⟩:=qa h
 have cT:ae pr (X pr) 155 [.int .i64 a0]=Ea (.str v1,I):=jzq h2
 have hr:v1=r:=Ea.inj h
 subst hr
 have this:∃hh,ah pr (X pr) 98 [.int .i64 a0] []=Ea (.str v1,I,hh):=by
  rw[qn (show pr.bn 98=Ea FB from rfl) (by simp)]
  simp only[go_sem,seval,FB,cT]
  exact⟨_,rfl⟩
 obtain⟨hh,this⟩:=this
 exact qm rfl this (by first|rfl|simp only[go_sem,seval]) (by first|rfl|simp only[go_sem,seval])
def sI (a0:List UInt8)(s0:Int×Int):Option ((Int×Int)⊕((Int×Int))):=
 cond (decide (s0.2<(a0.length:Int)))
  (qe (jn a0 s0.2) fun v12=>
  qe (nU (qh .i64 ((qh .i64 (313*s0.1))+(qh .i64 (v12.toNat:Int)))) 9999889) fun fX=>
  Ea (.inl (fX,qh .i64 (s0.2+1))))
  (Ea (.inr (s0.1,s0.2)))
def Jc (a0:List UInt8)(s0:Int×Int):aV:=⟨[(0,.str a0,I),(3,.int .i64 s0.1,I),(4,.int .i64 s0.2,I)],[]⟩
def QX (a0:List UInt8)(d:(Int×Int)):je×aV:=(.exit 0,⟨[(0,.str a0,I),(3,.int .i64 d.1,I),(4,.int .i64 d.2,I),(9,.bool I,I)],[]⟩)
theorem jn8 (a0:List UInt8)(s0:Int×Int)(r)(h:sI a0 s0=Ea r):zd pr B7 (Jc a0) (QX a0) s0 r:=by
 unfold sI at h
 rcases qc h with⟨de,h⟩|⟨de,h⟩
 ·obtain⟨v12,dM,h⟩:=qa h
  obtain⟨fX,gO,h⟩:=qa h
  cases h
  exact jp (aN:=⟨[(0,.str a0,I),(3,.int .i64 fX,I),(4,.int .i64 (qh .i64 (s0.2+1)),I)],[]⟩) (by simp only[go_sem,seval,B7,Jc,de,jk dM,IV gO]<;>rfl) (ju (Ec _))
 ·cases h
  exact qy (by simp only[go_sem,seval,B7,Jc,de,QX]<;>rfl)
theorem jmu (a0:List UInt8){s0:Int×Int}{d}(h:bq (sI a0) s0=Ea d):X pr (.loop B7) (Jc a0 s0)=Ea (QX a0 d):=ki (jn8 a0) (fun d hh=>by cases hh) h
def wG (s1:(List UInt8)):Option ((List UInt8)⊕((List UInt8))):=
 cond (decide ((s1.length:Int)<7))
  (qe (kr ([48]:List UInt8) s1) fun wD=>
  Ea (.inl wD))
  (Ea (.inr s1))
def Jd (s1:(List UInt8)):aV:=⟨[(5,.str s1,I)],[]⟩
def QY (d:(List UInt8)):je×aV:=(.exit 2,⟨[(5,.str d,I),(24,.bool I,I)],[]⟩)
theorem jrn (s1:(List UInt8))(r)(h:wG s1=Ea r):zd pr B8 (Jd) (QY) s1 r:=by
 unfold wG at h
 rcases qc h with⟨ez,h⟩|⟨ez,h⟩
 ·obtain⟨wD,dW,h⟩:=qa h
  cases h
  exact jp (aN:=⟨[(5,.str wD,I)],[]⟩) (by simp only[go_sem,seval,B8,Jd,ez,yr dW]<;>rfl) (ju (Ec _))
 ·cases h
  exact qy (by simp only[go_sem,seval,B8,Jd,ez,QY]<;>rfl)
theorem jnl {s1:(List UInt8)}{d}(h:bq (wG) s1=Ea d):X pr (.loop B8) (Jd s1)=Ea (QY d):=ki (jrn) (fun d hh=>by cases hh) h
def f54 (a0:List UInt8):Option (List UInt8):=
 qe (bq (sI a0) (1,0)) fun d16=>
 qe (f98 d16.1) fun fj=>
 qe (bq (wG) fj) fun d29=>
 Ea d29
theorem W54 {a0:List UInt8}{r}(h:f54 a0=Ea r):ae pr (X pr) 54 [.str a0]=Ea (.str r,I):=by
 unfold f54 at h
 obtain⟨d16,fC,h⟩:=qa h
 have hH:X pr (.loop B7) ⟨[(0,.str a0,I),(3,.int .i64 1,I),(4,.int .i64 0,I)],[]⟩=Ea (.exit 0,⟨[(0,.str a0,I),(3,.int .i64 d16.1,I),(4,.int .i64 d16.2,I),(9,.bool I,I)],[]⟩):=jmu a0 fC
 obtain⟨fj,dJ,h⟩:=qa h
 have wx:ae pr (X pr) 98 [.int .i64 d16.1]=Ea (.str fj,I):=QW dJ
 obtain⟨d29,dS,h⟩:=qa h
 have ep:X pr (.loop B8) ⟨[(5,.str fj,I)],[]⟩=Ea (.exit 2,⟨[(5,.str d29,I),(24,.bool I,I)],[]⟩):=jnl dS
 have hr:d29=r:=Ea.inj h
 subst hr
 have this:∃hh,ah pr (X pr) 54 [.str a0] []=Ea (.str d29,I,hh):=by
  rw[qn (show pr.bn 54=Ea FC from rfl) (by simp)]
  simp only[go_sem,seval,FC,hH,wx,ep]
  exact⟨_,rfl⟩
 obtain⟨hh,this⟩:=this
 exact qm rfl this (by first|rfl|simp only[go_sem,seval]) (by first|rfl|simp only[go_sem,seval])
def uf (a0:aT)(s0:(List UInt8)×Int):Option (((List UInt8)×Int)⊕(((List UInt8)×Int))):=
 cond (decide (s0.2<((a0.names.getD []).length:Int)))
  (qe (kr s0.1 ([32]:List UInt8)) fun v22=>
  qe (jn (a0.names.getD []) s0.2) fun v24=>
  qe (kr v22 v24) fun v26=>
  Ea (.inl (v26,qh .i64 (s0.2+1))))
  (Ea (.inr (s0.1,s0.2)))
def Je (a0:aT)(s0:(List UInt8)×Int):aV:=⟨[(1,.ax (.agg [.int .i64 a0.number,.str a0.kind,sl 1 qv a0.names,sl 1 qx a0.values,.str a0.text]),I),(3,.str s0.1,I),(4,.int .i64 s0.2,I)],[]⟩
def QZ (a0:aT)(d:((List UInt8)×Int)):je×aV:=(.exit 0,⟨[(1,.ax (.agg [.int .i64 a0.number,.str a0.kind,sl 1 qv a0.names,sl 1 qx a0.values,.str a0.text]),I),(3,.str d.1,I),(4,.int .i64 d.2,I),(17,.bool I,I)],[]⟩)
theorem jpz (a0:aT)(s0:(List UInt8)×Int)(r)(h:uf a0 s0=Ea r):zd pr B9 (Je a0) (QZ a0) s0 r:=by
 unfold uf at h
 rcases qc h with⟨dL,h⟩|⟨dL,h⟩
 ·obtain⟨v22,gX,h⟩:=qa h
  obtain⟨v24,jI,h⟩:=qa h
  obtain⟨v26,fJ,h⟩:=qa h
  cases h
  exact jp (aN:=⟨[(1,.ax (.agg [.int .i64 a0.number,.str a0.kind,sl 1 qv a0.names,sl 1 qx a0.values,.str a0.text]),I),(3,.str v26,I),(4,.int .i64 (qh .i64 (s0.2+1)),I)],[]⟩) (by simp only[go_sem,seval,B9,Je,dL,yr gX,js jI,yr fJ]<;>rfl) (ju (Ec _))
 ·cases h
  exact qy (by simp only[go_sem,seval,B9,Je,dL,QZ]<;>rfl)
theorem jnb (a0:aT){s0:(List UInt8)×Int}{d}(h:bq (uf a0) s0=Ea d):X pr (.loop B9) (Je a0 s0)=Ea (QZ a0 d):=ki (jpz a0) (fun d hh=>by cases hh) h
def sJ (a0:aT)(s1:(List UInt8)×Int):Option (((List UInt8)×Int)⊕(((List UInt8)×Int))):=
 cond (decide (s1.2<((a0.values.getD []).length:Int)))
  (qe (kr s1.1 ([32]:List UInt8)) fun v49=>
  qe (jn (a0.values.getD []) s1.2) fun v51=>
  qe (f98 v51) fun v53=>
  qe (kr v49 v53) fun wH=>
  Ea (.inl (wH,qh .i64 (s1.2+1))))
  (Ea (.inr (s1.1,s1.2)))
def Jf (a0:aT)(s1:(List UInt8)×Int):aV:=⟨[(1,.ax (.agg [.int .i64 a0.number,.str a0.kind,sl 1 qv a0.names,sl 1 qx a0.values,.str a0.text]),I),(3,.str s1.1,I),(5,.int .i64 s1.2,I)],[]⟩
def Q0 (a0:aT)(d:((List UInt8)×Int)):je×aV:=(.exit 2,⟨[(1,.ax (.agg [.int .i64 a0.number,.str a0.kind,sl 1 qv a0.names,sl 1 qx a0.values,.str a0.text]),I),(3,.str d.1,I),(5,.int .i64 d.2,I),(32,.bool I,I)],[]⟩)
theorem jpm (a0:aT)(s1:(List UInt8)×Int)(r)(h:sJ a0 s1=Ea r):zd pr Cb (Jf a0) (Q0 a0) s1 r:=by
 unfold sJ at h
 rcases qc h with⟨sK,h⟩|⟨sK,h⟩
 ·obtain⟨v49,rG,h⟩:=qa h
  obtain⟨v51,Q5,h⟩:=qa h
  obtain⟨v53,wI,h⟩:=qa h
  have Q6:ae pr (X pr) 98 [.int .i64 v51]=Ea (.str v53,I):=QW wI
  obtain⟨wH,Q7,h⟩:=qa h
  cases h
  exact jp (aN:=⟨[(1,.ax (.agg [.int .i64 a0.number,.str a0.kind,sl 1 qv a0.names,sl 1 qx a0.values,.str a0.text]),I),(3,.str wH,I),(5,.int .i64 (qh .i64 (s1.2+1)),I)],[]⟩) (by simp only[go_sem,seval,Cb,Jf,sK,yr rG,js Q5,Q6,yr Q7]<;>rfl) (ju (Ec _))
 ·cases h
  exact qy (by simp only[go_sem,seval,Cb,Jf,sK,Q0]<;>rfl)
theorem jo4 (a0:aT){s1:(List UInt8)×Int}{d}(h:bq (sJ a0) s1=Ea d):X pr (.loop Cb) (Jf a0 s1)=Ea (Q0 a0 d):=ki (jpm a0) (fun d hh=>by cases hh) h
def f91 (a0:aT):Option (List UInt8):=
 qe (f98 a0.number) fun v1=>
 qe (kr v1 ([32]:List UInt8)) fun v3=>
 qe (kr v3 a0.kind) fun v5=>
 qe (bq (uf a0) (v5,0)) fun d28=>
 qe (bq (sJ a0) (d28.1,0)) fun d57=>
 Ea d57.1
theorem W91 {a0:aT}{r}(h:f91 a0=Ea r):ae pr (X pr) 91 [.agg [.int .i64 a0.number,.str a0.kind,sl 1 qv a0.names,sl 1 qx a0.values,.str a0.text]]=Ea (.str r,I):=by
 unfold f91 at h
 obtain⟨v1,h2,h⟩:=qa h
 have cT:ae pr (X pr) 98 [.int .i64 a0.number]=Ea (.str v1,I):=QW h2
 obtain⟨v3,h4,h⟩:=qa h
 obtain⟨v5,h6,h⟩:=qa h
 obtain⟨d28,nv,h⟩:=qa h
 have fY:X pr (.loop B9) ⟨[(1,.ax (.agg [.int .i64 a0.number,.str a0.kind,sl 1 qv a0.names,sl 1 qx a0.values,.str a0.text]),I),(3,.str v5,I),(4,.int .i64 0,I)],[]⟩=Ea (.exit 0,⟨[(1,.ax (.agg [.int .i64 a0.number,.str a0.kind,sl 1 qv a0.names,sl 1 qx a0.values,.str a0.text]),I),(3,.str d28.1,I),(4,.int .i64 d28.2,I),(17,.bool I,I)],[]⟩):=jnb a0 nv
 obtain⟨d57,Jg,h⟩:=qa h
 have pF:X pr (.loop Cb) ⟨[(1,.ax (.agg [.int .i64 a0.number,.str a0.kind,sl 1 qv a0.names,sl 1 qx a0.values,.str a0.text]),I),(3,.str d28.1,I),(5,.int .i64 0,I)],[]⟩=Ea (.exit 2,⟨[(1,.ax (.agg [.int .i64 a0.number,.str a0.kind,sl 1 qv a0.names,sl 1 qx a0.values,.str a0.text]),I),(3,.str d57.1,I),(5,.int .i64 d57.2,I),(32,.bool I,I)],[]⟩):=jo4 a0 Jg
 have hr:d57.1=r:=Ea.inj h
 subst hr
 have this:∃hh,ah pr (X pr) 91 [.agg [.int .i64 a0.number,.str a0.kind,sl 1 qv a0.names,sl 1 qx a0.values,.str a0.text]] []=Ea (.str d57.1,I,hh):=by
  rw[qn (show pr.bn 91=Ea FD from rfl) (by simp)]
  simp only[go_sem,seval,FD,cT,yr h4,yr h6,fY,pF]
  exact⟨_,rfl⟩
 obtain⟨hh,this⟩:=this
 exact qm rfl this (by first|rfl|simp only[go_sem,seval]) (by first|rfl|simp only[go_sem,seval])
def ug (a0:Option (List aT))(s0:(List UInt8)×Int):Option (((List UInt8)×Int)⊕(((List UInt8)×Int))):=
 cond (decide (s0.2<((a0.getD []).length:Int)))
  (qe (jn (a0.getD []) s0.2) fun hY=>
  qe (f91 hY) fun jZ=>
  qe (kr s0.1 jZ) fun pD=>
  qe (kr pD ([35]:List UInt8)) fun sL=>
  qe (f54 jZ) fun v40=>
  qe (kr sL v40) fun n6=>
  qe (kr n6 ([10]:List UInt8)) fun pG=>
  Ea (.inl (pG,qh .i64 (s0.2+1))))
  (Ea (.inr (s0.1,s0.2)))
def Jh (a0:Option (List aT))(s0:(List UInt8)×Int):aV:=⟨[(0,sl 5 bX a0,I),(3,.str s0.1,I),(4,.int .i64 s0.2,I)],[]⟩
def Q8 (a0:Option (List aT))(d:((List UInt8)×Int)):je×aV:=(.exit 0,⟨[(0,sl 5 bX a0,I),(3,.str d.1,I),(4,.int .i64 d.2,I),(8,.bool I,I)],[]⟩)
theorem jmw (a0:Option (List aT))(s0:(List UInt8)×Int)(r)(h:ug a0 s0=Ea r):zd pr Cc (Jh a0) (Q8 a0) s0 r:=by
 unfold ug at h
 rcases qc h with⟨eE,h⟩|⟨eE,h⟩
 ·obtain⟨hY,mP,h⟩:=qa h
  obtain⟨jZ,du,h⟩:=qa h
  have nx:ae pr (X pr) 91 [.agg [.int .i64 hY.number,.str hY.kind,sl 1 qv hY.names,sl 1 qx hY.values,.str hY.text]]=Ea (.str jZ,I):=W91 du
  obtain⟨pD,gF,h⟩:=qa h
  obtain⟨sL,fF,h⟩:=qa h
  obtain⟨v40,hP,h⟩:=qa h
  have jO:ae pr (X pr) 54 [.str jZ]=Ea (.str v40,I):=W54 hP
  obtain⟨n6,sM,h⟩:=qa h
  obtain⟨pG,lW,h⟩:=qa h
  cases h
  exact jp (aN:=⟨[(0,sl 5 bX a0,I),(3,.str pG,I),(4,.int .i64 (qh .i64 (s0.2+1)),I)],[]⟩) (by simp only[go_sem,seval,Cc,Jh,eE,js mP,nx,yr gF,yr fF,jO,yr sM,yr lW]<;>rfl) (ju (Ec _))
 ·cases h
  exact qy (by simp only[go_sem,seval,Cc,Jh,eE,Q8]<;>rfl)
theorem jq2 (a0:Option (List aT)){s0:(List UInt8)×Int}{d}(h:bq (ug a0) s0=Ea d):X pr (.loop Cc) (Jh a0 s0)=Ea (Q8 a0 d):=ki (jmw a0) (fun d hh=>by cases hh) h
def f35 (a0:Option (List aT)):Option (List UInt8):=
 qe (bq (ug a0) ([],0)) fun d46=>
 Ea d46.1
theorem W35 {a0:Option (List aT)}{r}(h:f35 a0=Ea r):ae pr (X pr) 35 [sl 5 bX a0]=Ea (.str r,I):=by
 unfold f35 at h
 obtain⟨d46,FE,h⟩:=qa h
 have Q9:X pr (.loop Cc) ⟨[(0,sl 5 bX a0,I),(3,.str [],I),(4,.int .i64 0,I)],[]⟩=Ea (.exit 0,⟨[(0,sl 5 bX a0,I),(3,.str d46.1,I),(4,.int .i64 d46.2,I),(8,.bool I,I)],[]⟩):=jq2 a0 FE
 have hr:d46.1=r:=Ea.inj h
 subst hr
 have this:∃hh,ah pr (X pr) 35 [sl 5 bX a0] []=Ea (.str d46.1,I,hh):=by
  rw[qn (show pr.bn 35=Ea FF from rfl) (by simp)]
  simp only[go_sem,seval,FF,Q9]
  exact⟨_,rfl⟩
 obtain⟨hh,this⟩:=this
 exact qm rfl this (by first|rfl|simp only[go_sem,seval]) (by first|rfl|simp only[go_sem,seval])
def pH (a0:List UInt8)(s0:Int×Int):Option ((Int×Int)⊕(Unit⊕(Int×Int))):=
 cond (decide (s0.2<(a0.length:Int)))
  (qe (jn a0 s0.2) fun fj=>
  cond (decide ((fj.toNat:Int)<48))
   (Ea (.inr (.inl ())))
   (cond (decide (57<(fj.toNat:Int)))
    (Ea (.inr (.inl ())))
    (Ea (.inl (qh .i64 ((qh .i64 (10*s0.1))+(qh .i64 (qh .u8 ((fj.toNat:Int)-48)))),qh .i64 (s0.2+1))))))
  (Ea (.inr (.inr (s0.1,s0.2))))
def Cd (a0:List UInt8)(s0:Int×Int):aV:=⟨[(0,.str a0,I),(4,.int .i64 s0.1,I),(5,.int .i64 s0.2,I)],[]⟩
def FG (a0:List UInt8):Unit⊕(Int×Int)→je×aV
 | .inl d=>(.ret,⟨[(2,.int .i64 0,I),(3,.bool I,I)],[]⟩)
 | .inr d=>(.exit 0,⟨[(0,.str a0,I),(4,.int .i64 d.1,I),(5,.int .i64 d.2,I),(27,.bool I,I)],[]⟩)
theorem jlg (a0:List UInt8)(s0:Int×Int)(r)(h:pH a0 s0=Ea r):zd pr ku (Cd a0) (FG a0) s0 r:=by
 unfold pH at h
 rcases qc h with⟨fC,h⟩|⟨fC,h⟩
 ·obtain⟨fj,dJ,h⟩:=qa h
  rcases qc h with⟨jW,h⟩|⟨jW,h⟩
  ·cases h
   exact qy (by simp only[go_sem,seval,ku,Cd,fC,jk dJ,jW,FG]<;>rfl)
  ·rcases qc h with⟨dL,h⟩|⟨dL,h⟩
   ·cases h
    exact qy (by simp only[go_sem,seval,ku,Cd,fC,jk dJ,jW,dL,FG]<;>rfl)
   ·cases h
    exact jp (aN:=⟨[(0,.str a0,I),(4,.int .i64 (qh .i64 ((qh .i64 (10*s0.1))+(qh .i64 (qh .u8 ((fj.toNat:Int)-48))))),I),(5,.int .i64 (qh .i64 (s0.2+1)),I)],[]⟩) (by simp only[go_sem,seval,ku,Cd,fC,jk dJ,jW,dL]<;>rfl) (ju (Ec _))
 ·cases h
  exact qy (by simp only[go_sem,seval,ku,Cd,fC,FG]<;>rfl)
theorem q6g (a0:List UInt8){s0:Int×Int}{d}(h:bq (pH a0) s0=Ea d):X pr (.loop ku) (Cd a0 s0)=Ea (FG a0 d):=ki (jlg a0) (fun d=>by rcases d with d|d<;>(intro hh;cases hh)) h
def FH (a0:List UInt8)(s0:Int×Int):Option ((Int×Int)⊕(Unit⊕(Int×Int))):=
 cond (decide (s0.2<(a0.length:Int)))
  (qe (jn a0 s0.2) fun v37=>
  cond (decide ((v37.toNat:Int)<48))
   (Ea (.inr (.inl ())))
   (cond (decide (57<(v37.toNat:Int)))
    (Ea (.inr (.inl ())))
    (Ea (.inl (qh .i64 ((qh .i64 (10*s0.1))+(qh .i64 (qh .u8 ((v37.toNat:Int)-48)))),qh .i64 (s0.2+1))))))
  (Ea (.inr (.inr (s0.1,s0.2))))
def Ce (a0:List UInt8)(s0:Int×Int):aV:=⟨[(0,.str a0,I),(4,.int .i64 s0.1,I),(5,.int .i64 s0.2,I)],[]⟩
def FI (a0:List UInt8):Unit⊕(Int×Int)→je×aV
 | .inl d=>(.ret,⟨[(2,.int .i64 0,I),(3,.bool I,I)],[]⟩)
 | .inr d=>(.exit 0,⟨[(0,.str a0,I),(4,.int .i64 d.1,I),(5,.int .i64 d.2,I),(27,.bool I,I)],[]⟩)
theorem jeo (a0:List UInt8)(s0:Int×Int)(r)(h:FH a0 s0=Ea r):zd pr ku (Ce a0) (FI a0) s0 r:=by
 unfold FH at h
 rcases qc h with⟨eP,h⟩|⟨eP,h⟩
 ·obtain⟨v37,hO,h⟩:=qa h
  rcases qc h with⟨fF,h⟩|⟨fF,h⟩
  ·cases h
   exact qy (by simp only[go_sem,seval,ku,Ce,eP,jk hO,fF,FI]<;>rfl)
  ·rcases qc h with⟨gP,h⟩|⟨gP,h⟩
   ·cases h
    exact qy (by simp only[go_sem,seval,ku,Ce,eP,jk hO,fF,gP,FI]<;>rfl)
   ·cases h
    exact jp (aN:=⟨[(0,.str a0,I),(4,.int .i64 (qh .i64 ((qh .i64 (10*s0.1))+(qh .i64 (qh .u8 ((v37.toNat:Int)-48))))),I),(5,.int .i64 (qh .i64 (s0.2+1)),I)],[]⟩) (by simp only[go_sem,seval,ku,Ce,eP,jk hO,fF,gP]<;>rfl) (ju (Ec _))
 ·cases h
  exact qy (by simp only[go_sem,seval,ku,Ce,eP,FI]<;>rfl)
theorem q0u (a0:List UInt8){s0:Int×Int}{d}(h:bq (FH a0) s0=Ea d):X pr (.loop ku) (Ce a0 s0)=Ea (FI a0 d):=ki (jeo a0) (fun d=>by rcases d with d|d<;>(intro hh;cases hh)) h
def Cf (a0:List UInt8):Option (Int×Bool):=
 cond (decide ((a0.length:Int)=0))
  (Ea (0,I))
  (cond (decide (9<(a0.length:Int)))
   (Ea (0,I))
   (cond (decide (1<(a0.length:Int)))
    (qe (jn a0 0) fun v4=>
    cond (decide ((v4.toNat:Int)=48))
     (Ea (0,I))
     (qe (bq (pH a0) (0,0)) fun d22=>match d22 with
      | .inl d24=>
       Ea (0,I)
      | .inr d25=>
       Ea (d25.1,Eb)))
    (qe (bq (FH a0) (0,0)) fun d41=>match d41 with
     | .inl d43=>
      Ea (0,I)
     | .inr d44=>
      Ea (d44.1,Eb))))
theorem jh6 {a0:List UInt8}{r}(h:Cf a0=Ea r):ae pr (X pr) 144 [.str a0]=Ea (.av [.int .i64 r.1,.bool r.2],I):=by
 unfold Cf at h
 rcases qc h with⟨h1,h⟩|⟨h1,h⟩
 ·have hr:(0,I)=r:=Ea.inj h
  subst hr
  have this:∃hh,ah pr (X pr) 144 [.str a0] []=Ea (.av [.int .i64 0,.bool I],I,hh):=by
   rw[qn (show pr.bn 144=Ea eG from rfl) (by simp)]
   simp only[go_sem,seval,eG,h1]
   exact⟨_,rfl⟩
  obtain⟨hh,this⟩:=this
  exact qm rfl this (by first|rfl|simp only[go_sem,seval]) (by first|rfl|simp only[go_sem,seval])
 ·rcases qc h with⟨h2,h⟩|⟨h2,h⟩
  ·have hr:(0,I)=r:=Ea.inj h
   subst hr
   have this:∃hh,ah pr (X pr) 144 [.str a0] []=Ea (.av [.int .i64 0,.bool I],I,hh):=by
    rw[qn (show pr.bn 144=Ea eG from rfl) (by simp)]
    simp only[go_sem,seval,eG,h1,h2]
    exact⟨_,rfl⟩
   obtain⟨hh,this⟩:=this
   exact qm rfl this (by first|rfl|simp only[go_sem,seval]) (by first|rfl|simp only[go_sem,seval])
  ·rcases qc h with⟨h3,h⟩|⟨h3,h⟩
   ·obtain⟨v4,h5,h⟩:=qa h
    rcases qc h with⟨h6,h⟩|⟨h6,h⟩
    ·have hr:(0,I)=r:=Ea.inj h
     subst hr
     have this:∃hh,ah pr (X pr) 144 [.str a0] []=Ea (.av [.int .i64 0,.bool I],I,hh):=by
      rw[qn (show pr.bn 144=Ea eG from rfl) (by simp)]
      simp only[go_sem,seval,eG,h1,h2,h3,jk h5,h6]
      exact⟨_,rfl⟩
     obtain⟨hh,this⟩:=this
     exact qm rfl this (by first|rfl|simp only[go_sem,seval]) (by first|rfl|simp only[go_sem,seval])
    ·obtain⟨d22,gX,h⟩:=qa h
     rcases d22 with d24|d25
     ·have wJ:X pr (.loop ku) ⟨[(0,.str a0,I),(4,.int .i64 0,I),(5,.int .i64 0,I)],[]⟩=Ea (.ret,⟨[(2,.int .i64 0,I),(3,.bool I,I)],[]⟩):=q6g a0 gX
      have hr:(0,I)=r:=Ea.inj h
      subst hr
      have this:∃hh,ah pr (X pr) 144 [.str a0] []=Ea (.av [.int .i64 0,.bool I],I,hh):=by
       rw[qn (show pr.bn 144=Ea eG from rfl) (by simp)]
       simp only[go_sem,seval,eG,h1,h2,h3,jk h5,h6,wJ]
       exact⟨_,rfl⟩
      obtain⟨hh,this⟩:=this
      exact qm rfl this (by first|rfl|simp only[go_sem,seval]) (by first|rfl|simp only[go_sem,seval])
     ·have wJ:X pr (.loop ku) ⟨[(0,.str a0,I),(4,.int .i64 0,I),(5,.int .i64 0,I)],[]⟩=Ea (.exit 0,⟨[(0,.str a0,I),(4,.int .i64 d25.1,I),(5,.int .i64 d25.2,I),(27,.bool I,I)],[]⟩):=q6g a0 gX
      have hr:(d25.1,Eb)=r:=Ea.inj h
      subst hr
      have this:∃hh,ah pr (X pr) 144 [.str a0] []=Ea (.av [.int .i64 d25.1,.bool Eb],I,hh):=by
       rw[qn (show pr.bn 144=Ea eG from rfl) (by simp)]
       simp only[go_sem,seval,eG,h1,h2,h3,jk h5,h6,wJ]
       exact⟨_,rfl⟩
      obtain⟨hh,this⟩:=this
      exact qm rfl this (by first|rfl|simp only[go_sem,seval]) (by first|rfl|simp only[go_sem,seval])
   ·obtain⟨d41,lq,h⟩:=qa h
    rcases d41 with d43|d44
    ·have lV:X pr (.loop ku) ⟨[(0,.str a0,I),(4,.int .i64 0,I),(5,.int .i64 0,I)],[]⟩=Ea (.ret,⟨[(2,.int .i64 0,I),(3,.bool I,I)],[]⟩):=q0u a0 lq
     have hr:(0,I)=r:=Ea.inj h
     subst hr
     have this:∃hh,ah pr (X pr) 144 [.str a0] []=Ea (.av [.int .i64 0,.bool I],I,hh):=by
      rw[qn (show pr.bn 144=Ea eG from rfl) (by simp)]
      simp only[go_sem,seval,eG,h1,h2,h3,lV]
      exact⟨_,rfl⟩
     obtain⟨hh,this⟩:=this
     exact qm rfl this (by first|rfl|simp only[go_sem,seval]) (by first|rfl|simp only[go_sem,seval])
    ·have lV:X pr (.loop ku) ⟨[(0,.str a0,I),(4,.int .i64 0,I),(5,.int .i64 0,I)],[]⟩=Ea (.exit 0,⟨[(0,.str a0,I),(4,.int .i64 d44.1,I),(5,.int .i64 d44.2,I),(27,.bool I,I)],[]⟩):=q0u a0 lq
     have hr:(d44.1,Eb)=r:=Ea.inj h
     subst hr
     have this:∃hh,ah pr (X pr) 144 [.str a0] []=Ea (.av [.int .i64 d44.1,.bool Eb],I,hh):=by
      rw[qn (show pr.bn 144=Ea eG from rfl) (by simp)]
      simp only[go_sem,seval,eG,h1,h2,h3,lV]
      exact⟨_,rfl⟩
     obtain⟨hh,this⟩:=this
     exact qm rfl this (by first|rfl|simp only[go_sem,seval]) (by first|rfl|simp only[go_sem,seval])
def sN (a0:List UInt8)(s0:Int):Option (Int⊕(Unit⊕Int)):=
 cond (decide (s0<(a0.length:Int)))
  (qe (jn a0 s0) fun v12=>
  cond (decide ((v12.toNat:Int)<48))
   (Ea (.inr (.inl ())))
   (cond (decide (57<(v12.toNat:Int)))
    (Ea (.inr (.inl ())))
    (Ea (.inl (qh .i64 (s0+1))))))
  (Ea (.inr (.inr s0)))
def Cg (a0:List UInt8)(s0:Int):aV:=⟨[(0,.str a0,I),(3,.int .i64 s0,I)],[]⟩
def FJ (a0:List UInt8):Unit⊕Int→je×aV
 | .inl d=>(.ret,⟨[(2,.bool I,I)],[]⟩)
 | .inr d=>(.exit 0,⟨[(0,.str a0,I),(3,.int .i64 d,I),(7,.bool I,I)],[]⟩)
theorem jji (a0:List UInt8)(s0:Int)(r)(h:sN a0 s0=Ea r):zd pr sO (Cg a0) (FJ a0) s0 r:=by
 unfold sN at h
 rcases qc h with⟨de,h⟩|⟨de,h⟩
 ·obtain⟨v12,dM,h⟩:=qa h
  rcases qc h with⟨dw,h⟩|⟨dw,h⟩
  ·cases h
   exact qy (by simp only[go_sem,seval,sO,Cg,de,jk dM,dw,FJ]<;>rfl)
  ·rcases qc h with⟨gO,h⟩|⟨gO,h⟩
   ·cases h
    exact qy (by simp only[go_sem,seval,sO,Cg,de,jk dM,dw,gO,FJ]<;>rfl)
   ·cases h
    exact jp (aN:=⟨[(0,.str a0,I),(3,.int .i64 (qh .i64 (s0+1)),I)],[]⟩) (by simp only[go_sem,seval,sO,Cg,de,jk dM,dw,gO]<;>rfl) (ju (Ec _))
 ·cases h
  exact qy (by simp only[go_sem,seval,sO,Cg,de,FJ]<;>rfl)
theorem q5c (a0:List UInt8){s0:Int}{d}(h:bq (sN a0) s0=Ea d):X pr (.loop sO) (Cg a0 s0)=Ea (FJ a0 d):=ki (jji a0) (fun d=>by rcases d with d|d<;>(intro hh;cases hh)) h
def f143 (a0:List UInt8):Option Bool:=
 qe (bq (sN a0) 0) fun d16=>match d16 with
  | .inl d18=>
   Ea I
  | .inr d19=>
   Ea (decide ((a0.length:Int)=7))
theorem jzt {a0:List UInt8}{r}(h:f143 a0=Ea r):ae pr (X pr) 143 [.str a0]=Ea (.bool r,I):=by
 unfold f143 at h
 obtain⟨d16,fC,h⟩:=qa h
 rcases d16 with d18|d19
 ·have hH:X pr (.loop sO) ⟨[(0,.str a0,I),(3,.int .i64 0,I)],[]⟩=Ea (.ret,⟨[(2,.bool I,I)],[]⟩):=q5c a0 fC
  have hr:I=r:=Ea.inj h
  subst hr
  have this:∃hh,ah pr (X pr) 143 [.str a0] []=Ea (.bool I,I,hh):=by
   rw[qn (show pr.bn 143=Ea ny from rfl) (by simp)]
   simp only[go_sem,seval,ny,hH]
   exact⟨_,rfl⟩
  obtain⟨hh,this⟩:=this
  exact qm rfl this (by first|rfl|simp only[go_sem,seval]) (by first|rfl|simp only[go_sem,seval])
 ·have hH:X pr (.loop sO) ⟨[(0,.str a0,I),(3,.int .i64 0,I)],[]⟩=Ea (.exit 0,⟨[(0,.str a0,I),(3,.int .i64 d19,I),(7,.bool I,I)],[]⟩):=q5c a0 fC
  have hr:decide ((a0.length:Int)=7)=r:=Ea.inj h
  subst hr
  have this:∃hh,ah pr (X pr) 143 [.str a0] []=Ea (.bool (decide ((a0.length:Int)=7)),I,hh):=by
   rw[qn (show pr.bn 143=Ea ny from rfl) (by simp)]
   simp only[go_sem,seval,ny,hH]
   exact⟨_,rfl⟩
  obtain⟨hh,this⟩:=this
  exact qm rfl this (by first|rfl|simp only[go_sem,seval]) (by first|rfl|simp only[go_sem,seval])
end Go.Z
namespace Go.Z
open Go Go.Abs Go.W
def uh (a0:Option (List Int))(a1:Option (List Int))(s0:Int):Option (Int⊕(Unit⊕Int)):=
 cond (decide (s0<((a0.getD []).length:Int)))
  (qe (jn (a0.getD []) s0) fun eF=>
  qe (jn (a1.getD []) s0) fun iT=>
  cond (decide (eF=iT))
   (Ea (.inl (qh .i64 (s0+1))))
   (Ea (.inr (.inl ()))))
  (Ea (.inr (.inr s0)))
def FK (a0:Option (List Int))(a1:Option (List Int))(s0:Int):aV:=⟨[(0,sl 1 qx a0,I),(1,sl 1 qx a1,I),(5,.int .i64 s0,I)],[]⟩
def Ji (a0:Option (List Int))(a1:Option (List Int)):Unit⊕Int→je×aV
 | .inl d=>(.ret,⟨[(4,.bool I,I)],[]⟩)
 | .inr d=>(.exit 0,⟨[(0,sl 1 qx a0,I),(1,sl 1 qx a1,I),(5,.int .i64 d,I),(14,.bool I,I)],[]⟩)
theorem joe (a0:Option (List Int))(a1:Option (List Int))(s0:Int)(r)(h:uh a0 a1 s0=Ea r):zd pr ui (FK a0 a1) (Ji a0 a1) s0 r:=by
 unfold uh at h
 rcases qc h with⟨dw,h⟩|⟨dw,h⟩
 ·obtain⟨eF,jY,h⟩:=qa h
  obtain⟨iT,mN,h⟩:=qa h
  rcases qc h with⟨dJ,h⟩|⟨dJ,h⟩
  ·cases h
   exact jp (aN:=⟨[(0,sl 1 qx a0,I),(1,sl 1 qx a1,I),(5,.int .i64 (qh .i64 (s0+1)),I)],[]⟩) (by simp only[go_sem,seval,ui,FK,dw,js jY,js mN,dJ]<;>rfl) (ju (Ec _))
  ·cases h
   exact qy (by simp only[go_sem,seval,ui,FK,dw,js jY,js mN,dJ,Ji]<;>rfl)
 ·cases h
  exact qy (by simp only[go_sem,seval,ui,FK,dw,Ji]<;>rfl)
theorem jcq (a0:Option (List Int))(a1:Option (List Int)){s0:Int}{d}(h:bq (uh a0 a1) s0=Ea d):X pr (.loop ui) (FK a0 a1 s0)=Ea (Ji a0 a1 d):=ki (joe a0 a1) (fun d=>by rcases d with d|d<;>(intro hh;cases hh)) h
def f92 (a0:Option (List Int))(a1:Option (List Int)):Option Bool:=
 cond (decide (((a0.getD []).length:Int)=((a1.getD []).length:Int)))
  (qe (bq (uh a0 a1) 0) fun d20=>match d20 with
   | .inl d22=>
    Ea I
   | .inr d23=>
    Ea Eb)
  (Ea I)
theorem W92 {a0:Option (List Int)}{a1:Option (List Int)}{r}(h:f92 a0 a1=Ea r):ae pr (X pr) 92 [sl 1 qx a0,sl 1 qx a1]=Ea (.bool r,I):=by
 unfold f92 at h
 rcases qc h with⟨h1,h⟩|⟨h1,h⟩
 ·obtain⟨d20,dL,h⟩:=qa h
  rcases d20 with d22|d23
  ·have hJ:X pr (.loop ui) ⟨[(0,sl 1 qx a0,I),(1,sl 1 qx a1,I),(5,.int .i64 0,I)],[]⟩=Ea (.ret,⟨[(4,.bool I,I)],[]⟩):=jcq a0 a1 dL
   have hr:I=r:=Ea.inj h
   subst hr
   have this:∃hh,ah pr (X pr) 92 [sl 1 qx a0,sl 1 qx a1] []=Ea (.bool I,I,hh):=by
    rw[qn (show pr.bn 92=Ea uj from rfl) (by simp)]
    simp only[go_sem,seval,uj,h1,hJ]
    exact⟨_,rfl⟩
   obtain⟨hh,this⟩:=this
   exact qm rfl this (by first|rfl|simp only[go_sem,seval]) (by first|rfl|simp only[go_sem,seval])
  ·have hJ:X pr (.loop ui) ⟨[(0,sl 1 qx a0,I),(1,sl 1 qx a1,I),(5,.int .i64 0,I)],[]⟩=Ea (.exit 0,⟨[(0,sl 1 qx a0,I),(1,sl 1 qx a1,I),(5,.int .i64 d23,I),(14,.bool I,I)],[]⟩):=jcq a0 a1 dL
   have hr:Eb=r:=Ea.inj h
   subst hr
   have this:∃hh,ah pr (X pr) 92 [sl 1 qx a0,sl 1 qx a1] []=Ea (.bool Eb,I,hh):=by
    rw[qn (show pr.bn 92=Ea uj from rfl) (by simp)]
    simp only[go_sem,seval,uj,h1,hJ]
    exact⟨_,rfl⟩
   obtain⟨hh,this⟩:=this
   exact qm rfl this (by first|rfl|simp only[go_sem,seval]) (by first|rfl|simp only[go_sem,seval])
 ·have hr:I=r:=Ea.inj h
  subst hr
  have this:∃hh,ah pr (X pr) 92 [sl 1 qx a0,sl 1 qx a1] []=Ea (.bool I,I,hh):=by
   rw[qn (show pr.bn 92=Ea uj from rfl) (by simp)]
   simp only[go_sem,seval,uj,h1]
   exact⟨_,rfl⟩
  obtain⟨hh,this⟩:=this
  exact qm rfl this (by first|rfl|simp only[go_sem,seval]) (by first|rfl|simp only[go_sem,seval])
def uk (a0:Option (List aT))(a1:Option (List aT))(s0:Int):Option (Int⊕(Unit⊕Int)):=
 cond (decide (s0<((a0.getD []).length:Int)))
  (qe (jn (a0.getD []) s0) fun v31=>
  qe (jn (a1.getD []) s0) fun iU=>
  cond (decide (v31.number=iU.number))
   (cond (decide (v31.kind=iU.kind))
    (qe (f53 v31.names iU.names) fun v37=>
    cond v37
     (qe (f92 v31.values iU.values) fun v40=>
     cond v40
      (cond (decide (v31.text=iU.text))
       (Ea (.inl (qh .i64 (s0+1))))
       (Ea (.inr (.inl ()))))
      (Ea (.inr (.inl ()))))
     (Ea (.inr (.inl ()))))
    (Ea (.inr (.inl ()))))
   (Ea (.inr (.inl ()))))
  (Ea (.inr (.inr s0)))
def sP (a0:Option (List aT))(a1:Option (List aT))(s0:Int):aV:=⟨[(0,sl 5 bX a0,I),(1,sl 5 bX a1,I),(5,.int .i64 s0,I)],[]⟩
def ul (a0:Option (List aT))(a1:Option (List aT)):Unit⊕Int→je×aV
 | .inl d=>(.ret,⟨[(4,.bool I,I)],[]⟩)
 | .inr d=>(.exit 0,⟨[(0,sl 5 bX a0,I),(1,sl 5 bX a1,I),(5,.int .i64 d,I),(14,.bool I,I)],[]⟩)
theorem joh (a0:Option (List aT))(a1:Option (List aT))(s0:Int)(r)(h:uk a0 a1 s0=Ea r):zd pr n8 (sP a0 a1) (ul a0 a1) s0 r:=by
 unfold uk at h
 rcases qc h with⟨dS,h⟩|⟨dS,h⟩
 ·obtain⟨v31,iQ,h⟩:=qa h
  obtain⟨iU,fk,h⟩:=qa h
  rcases qc h with⟨du,h⟩|⟨du,h⟩
  ·rcases qc h with⟨eP,h⟩|⟨eP,h⟩
   ·obtain⟨v37,hO,h⟩:=qa h
    have jP:ae pr (X pr) 53 [sl 1 qv v31.names,sl 1 qv iU.names]=Ea (.bool v37,I):=W53 hO
    rcases qc h with⟨fF,h⟩|⟨fF,h⟩
    ·obtain⟨v40,hP,h⟩:=qa h
     have jO:ae pr (X pr) 92 [sl 1 qx v31.values,sl 1 qx iU.values]=Ea (.bool v40,I):=W92 hP
     rcases qc h with⟨lq,h⟩|⟨lq,h⟩
     ·rcases qc h with⟨sM,h⟩|⟨sM,h⟩
      ·cases h
       exact jp (aN:=⟨[(0,sl 5 bX a0,I),(1,sl 5 bX a1,I),(5,.int .i64 (qh .i64 (s0+1)),I)],[]⟩) (by simp only[go_sem,seval,n8,sP,dS,js iQ,js fk,du,eP,jP,fF,jO,lq,sM]<;>rfl) (ju (Ec _))
      ·cases h
       exact qy (by simp only[go_sem,seval,n8,sP,dS,js iQ,js fk,du,eP,jP,fF,jO,lq,sM,ul]<;>rfl)
     ·cases h
      exact qy (by simp only[go_sem,seval,n8,sP,dS,js iQ,js fk,du,eP,jP,fF,jO,lq,ul]<;>rfl)
    ·cases h
     exact qy (by simp only[go_sem,seval,n8,sP,dS,js iQ,js fk,du,eP,jP,fF,ul]<;>rfl)
   ·cases h
    exact qy (by simp only[go_sem,seval,n8,sP,dS,js iQ,js fk,du,eP,ul]<;>rfl)
  ·cases h
   exact qy (by simp only[go_sem,seval,n8,sP,dS,js iQ,js fk,du,ul]<;>rfl)
 ·cases h
  exact qy (by simp only[go_sem,seval,n8,sP,dS,ul]<;>rfl)
theorem jcy (a0:Option (List aT))(a1:Option (List aT)){s0:Int}{d}(h:bq (uk a0 a1) s0=Ea d):X pr (.loop n8) (sP a0 a1 s0)=Ea (ul a0 a1 d):=ki (joh a0 a1) (fun d=>by rcases d with d|d<;>(intro hh;cases hh)) h
def f36 (a0:Option (List aT))(a1:Option (List aT)):Option Bool:=
 cond (decide (((a0.getD []).length:Int)=((a1.getD []).length:Int)))
  (qe (bq (uk a0 a1) 0) fun d44=>match d44 with
   | .inl d46=>
    Ea I
   | .inr d47=>
    Ea Eb)
  (Ea I)
theorem W36 {a0:Option (List aT)}{a1:Option (List aT)}{r}(h:f36 a0 a1=Ea r):ae pr (X pr) 36 [sl 5 bX a0,sl 5 bX a1]=Ea (.bool r,I):=by
 unfold f36 at h
 rcases qc h with⟨h1,h⟩|⟨h1,h⟩
 ·obtain⟨d44,lW,h⟩:=qa h
  rcases d44 with d46|d47
  ·have iA:X pr (.loop n8) ⟨[(0,sl 5 bX a0,I),(1,sl 5 bX a1,I),(5,.int .i64 0,I)],[]⟩=Ea (.ret,⟨[(4,.bool I,I)],[]⟩):=jcy a0 a1 lW
   have hr:I=r:=Ea.inj h
   subst hr
   have this:∃hh,ah pr (X pr) 36 [sl 5 bX a0,sl 5 bX a1] []=Ea (.bool I,I,hh):=by
    rw[qn (show pr.bn 36=Ea um from rfl) (by simp)]
    simp only[go_sem,seval,um,h1,iA]
    exact⟨_,rfl⟩
   obtain⟨hh,this⟩:=this
   exact qm rfl this (by first|rfl|simp only[go_sem,seval]) (by first|rfl|simp only[go_sem,seval])
  ·have iA:X pr (.loop n8) ⟨[(0,sl 5 bX a0,I),(1,sl 5 bX a1,I),(5,.int .i64 0,I)],[]⟩=Ea (.exit 0,⟨[(0,sl 5 bX a0,I),(1,sl 5 bX a1,I),(5,.int .i64 d47,I),(14,.bool I,I)],[]⟩):=jcy a0 a1 lW
   have hr:Eb=r:=Ea.inj h
   subst hr
   have this:∃hh,ah pr (X pr) 36 [sl 5 bX a0,sl 5 bX a1] []=Ea (.bool Eb,I,hh):=by
    rw[qn (show pr.bn 36=Ea um from rfl) (by simp)]
    simp only[go_sem,seval,um,h1,iA]
    exact⟨_,rfl⟩
   obtain⟨hh,this⟩:=this
   exact qm rfl this (by first|rfl|simp only[go_sem,seval]) (by first|rfl|simp only[go_sem,seval])
 ·have hr:I=r:=Ea.inj h
  subst hr
  have this:∃hh,ah pr (X pr) 36 [sl 5 bX a0,sl 5 bX a1] []=Ea (.bool I,I,hh):=by
   rw[qn (show pr.bn 36=Ea um from rfl) (by simp)]
   simp only[go_sem,seval,um,h1]
   exact⟨_,rfl⟩
  obtain⟨hh,this⟩:=this
  exact qm rfl this (by first|rfl|simp only[go_sem,seval]) (by first|rfl|simp only[go_sem,seval])
end Go.Z
namespace Go.Z
open Go Go.Abs Go.W
def sQ (a0:List UInt8)(a1:Int)(s0:(Option (List (List UInt8)))×Int×Int×Bool):Option (((Option (List (List UInt8)))×Int×Int×Bool)⊕(((Option (List (List UInt8)))×Bool×Int×Int))):=
 cond (decide (s0.2.2.1<(a0.length:Int)))
  (qe (jn a0 s0.2.2.1) fun v20=>
  cond (decide ((v20.toNat:Int)=a1))
   (qe (kc a0 (Ea s0.2.1) (Ea s0.2.2.1)) fun v23=>
   cond s0.2.2.2
    (qe (cK s0.1 [v23]) fun v26=>
    Ea (.inl (v26,qh .i64 (s0.2.2.1+1),qh .i64 (s0.2.2.1+1),Eb)))
    (cond s0.1.isNone
     (qe (cK s0.1 [v23]) fun gE=>
     Ea (.inl (gE,qh .i64 (s0.2.2.1+1),qh .i64 (s0.2.2.1+1),Eb)))
     (Ek)))
   (Ea (.inl (s0.1,s0.2.1,qh .i64 (s0.2.2.1+1),s0.2.2.2))))
  (Ea (.inr (s0.1,s0.2.2.2,s0.2.1,s0.2.2.1)))
def Ch (a0:List UInt8)(a1:Int)(s0:(Option (List (List UInt8)))×Int×Int×Bool):aV:=⟨[(0,.str a0,I),(1,.int .u8 a1,I),(5,sl 1 qv s0.1,s0.2.2.2),(6,.int .i64 s0.2.1,I),(7,.int .i64 s0.2.2.1,I)],[]⟩
def Ra (a0:List UInt8)(a1:Int)(d:((Option (List (List UInt8)))×Bool×Int×Int)):je×aV:=(.exit 0,⟨[(0,.str a0,I),(1,.int .u8 a1,I),(5,sl 1 qv d.1,d.2.1),(6,.int .i64 d.2.2.1,I),(7,.int .i64 d.2.2.2,I),(11,.bool I,I)],[]⟩)
theorem jn1 (a0:List UInt8)(a1:Int)(s0:(Option (List (List UInt8)))×Int×Int×Bool)(r)(h:sQ a0 a1 s0=Ea r):zd pr uo (Ch a0 a1) (Ra a0 a1) s0 r:=by
 unfold sQ at h
 rcases qc h with⟨dJ,h⟩|⟨dJ,h⟩
 ·obtain⟨v20,dL,h⟩:=qa h
  rcases qc h with⟨gj,h⟩|⟨gj,h⟩
  ·obtain⟨v23,lg,h⟩:=qa h
   rcases qc h with⟨jI,h⟩|⟨jI,h⟩
   ·obtain⟨v26,fJ,h⟩:=qa h
    cases h
    exact jp (aN:=⟨[(0,.str a0,I),(1,.int .u8 a1,I),(5,sl 1 qv v26,Eb),(6,.int .i64 (qh .i64 (s0.2.2.1+1)),I),(7,.int .i64 (qh .i64 (s0.2.2.1+1)),I)],[]⟩) (by simp only[go_sem,seval,uo,Ch,dJ,jk dL,gj,BT lg,jI,IX fJ]<;>rfl) (ju (Ec _))
   ·rcases qc h with⟨dW,h⟩|⟨dW,h⟩
    ·obtain⟨gE,dS,h⟩:=qa h
     cases h
     exact jp (aN:=⟨[(0,.str a0,I),(1,.int .u8 a1,I),(5,sl 1 qv gE,Eb),(6,.int .i64 (qh .i64 (s0.2.2.1+1)),I),(7,.int .i64 (qh .i64 (s0.2.2.1+1)),I)],[]⟩) (by simp only[go_sem,seval,uo,Ch,dJ,jk dL,gj,BT lg,jI,dW,IY dS dW]<;>rfl) (ju (Ec _))
    ·cases h
  ·cases h
   exact jp (aN:=⟨[(0,.str a0,I),(1,.int .u8 a1,I),(5,sl 1 qv s0.1,s0.2.2.2),(6,.int .i64 s0.2.1,I),(7,.int .i64 (qh .i64 (s0.2.2.1+1)),I)],[]⟩) (by simp only[go_sem,seval,uo,Ch,dJ,jk dL,gj]<;>rfl) (ju (Ec _))
 ·cases h
  exact qy (by simp only[go_sem,seval,uo,Ch,dJ,Ra]<;>rfl)
theorem jsp (a0:List UInt8)(a1:Int){s0:(Option (List (List UInt8)))×Int×Int×Bool}{d}(h:bq (sQ a0 a1) s0=Ea d):X pr (.loop uo) (Ch a0 a1 s0)=Ea (Ra a0 a1 d):=ki (jn1 a0 a1) (fun d hh=>by cases hh) h
def f95 (a0:List UInt8)(a1:Int):Option (Option (List (List UInt8))):=
 qe (bq (sQ a0 a1) (Ek,0,0,I)) fun d31=>
 qe (kc a0 (Ea d31.2.2.1) Ek) fun iU=>
 cond d31.2.1
  (qe (cK d31.1 [iU]) fun pD=>
  Ea pD)
  (cond d31.1.isNone
   (qe (cK d31.1 [iU]) fun nZ=>
   Ea nZ)
   (Ek))
theorem W95 {a0:List UInt8}{a1:Int}{r}(h:f95 a0 a1=Ea r):ae pr (X pr) 95 [.str a0,.int .u8 a1]=Ea (sl 1 qv r,Eb):=by
 unfold f95 at h
 obtain⟨d31,iQ,h⟩:=qa h
 have sR:X pr (.loop uo) ⟨[(0,.str a0,I),(1,.int .u8 a1,I),(5,.list Eb 0 [],I),(6,.int .i64 0,I),(7,.int .i64 0,I)],[]⟩=Ea (.exit 0,⟨[(0,.str a0,I),(1,.int .u8 a1,I),(5,sl 1 qv d31.1,d31.2.1),(6,.int .i64 d31.2.2.1,I),(7,.int .i64 d31.2.2.2,I),(11,.bool I,I)],[]⟩):=jsp a0 a1 iQ
 obtain⟨iU,fk,h⟩:=qa h
 rcases qc h with⟨du,h⟩|⟨du,h⟩
 ·rw[du]at sR
  obtain⟨pD,gF,h⟩:=qa h
  have hr:pD=r:=Ea.inj h
  subst hr
  have this:∃hh,ah pr (X pr) 95 [.str a0,.int .u8 a1] []=Ea (sl 1 qv pD,Eb,hh):=by
   rw[qn (show pr.bn 95=Ea Ci from rfl) (by simp)]
   simp only[go_sem,seval,Ci,sR,zw fk,du,IX gF]
   exact⟨_,rfl⟩
  obtain⟨hh,this⟩:=this
  exact IG rfl this (by first|rfl|simp only[go_sem,seval]) (by first|rfl|simp only[go_sem,seval]) (by first|rfl|simp only[go_sem,seval])
 ·rw[du]at sR
  rcases qc h with⟨hO,h⟩|⟨hO,h⟩
  ·obtain⟨nZ,gP,h⟩:=qa h
   have hr:nZ=r:=Ea.inj h
   subst hr
   have this:∃hh,ah pr (X pr) 95 [.str a0,.int .u8 a1] []=Ea (sl 1 qv nZ,Eb,hh):=by
    rw[qn (show pr.bn 95=Ea Ci from rfl) (by simp)]
    simp only[go_sem,seval,Ci,sR,zw fk,du,hO,IY gP hO]
    exact⟨_,rfl⟩
   obtain⟨hh,this⟩:=this
   exact IG rfl this (by first|rfl|simp only[go_sem,seval]) (by first|rfl|simp only[go_sem,seval]) (by first|rfl|simp only[go_sem,seval])
  ·cases h
end Go.Z
namespace Go.Z
open Go Go.Abs Go.W
def pI (v1:Option (List (List UInt8)))(v3:List UInt8)(v5:lm)(s0:Int×(Option (List (List UInt8)))×(Option (List Int))×Bool×Bool):Option ((Int×(Option (List (List UInt8)))×(Option (List Int))×Bool×Bool)⊕(((Option (List (List UInt8)))×Bool×(Option (List Int))×Bool)⊕(Int×(Option (List (List UInt8)))×Bool×(Option (List Int))×Bool))):=
 cond (decide (s0.1<(qh .i64 ((qh .i64 (1+v5.names))+v5.values))))
  (qe (jn (v1.getD []) s0.1) fun sL=>
  cond (decide (sL=[]))
   (Ea (.inr (.inl (s0.2.1,s0.2.2.2.1,s0.2.2.1,s0.2.2.2.2))))
   (cond (decide (s0.1≤v5.names))
    (cond s0.2.2.2.1
     (qe (cK s0.2.1 [sL]) fun Rb=>
     Ea (.inl (qh .i64 (s0.1+1),Rb,s0.2.2.1,Eb,s0.2.2.2.2)))
     (cond s0.2.1.isNone
      (qe (cK s0.2.1 [sL]) fun v46=>
      Ea (.inl (qh .i64 (s0.1+1),v46,s0.2.2.1,Eb,s0.2.2.2.2)))
      (Ek)))
    (qe (Cf sL) fun Cj=>
    cond Cj.2
     (cond s0.2.2.2.2
      (qe (cK s0.2.2.1 [Cj.1]) fun Rc=>
      Ea (.inl (qh .i64 (s0.1+1),s0.2.1,Rc,s0.2.2.2.1,Eb)))
      (cond s0.2.2.1.isNone
       (qe (cK s0.2.2.1 [Cj.1]) fun wH=>
       Ea (.inl (qh .i64 (s0.1+1),s0.2.1,wH,s0.2.2.2.1,Eb)))
       (Ek)))
     (Ea (.inr (.inl (s0.2.1,s0.2.2.2.1,s0.2.2.1,s0.2.2.2.2)))))))
  (Ea (.inr (.inr (s0.1,s0.2.1,s0.2.2.2.1,s0.2.2.1,s0.2.2.2.2))))
def sS (v1:Option (List (List UInt8)))(v3:List UInt8)(v5:lm)(s0:Int×(Option (List (List UInt8)))×(Option (List Int))×Bool×Bool):aV:=⟨[(2,.ptr 0 0,I),(4,sl 1 qv v1,Eb),(5,.ax (.agg [.int .i64 v5.names,.int .i64 v5.values,.bool Eb]),I),(6,.int .i64 (qh .i64 ((qh .i64 (1+v5.names))+v5.values)),I),(7,.ptr 1 0,I),(8,.int .i64 s0.1,I)],[.cells [(.int .i64 0,I),(.str [],I),(.list Eb 0 [],I),(.list Eb 0 [],I),(.str [],I)],.cells [(.int .i64 0,I),(.str v3,I),(sl 1 qv s0.2.1,s0.2.2.2.1),(sl 1 qx s0.2.2.1,s0.2.2.2.2),(.str [],I)]]⟩
def FL (v1:Option (List (List UInt8)))(v3:List UInt8)(v5:lm):((Option (List (List UInt8)))×Bool×(Option (List Int))×Bool)⊕(Int×(Option (List (List UInt8)))×Bool×(Option (List Int))×Bool)→je×aV
 | .inl d=>(.ret,⟨[(2,.ptr 0 0,I),(3,.bool I,I)],[.cells [(.int .i64 0,I),(.str [],I),(.list Eb 0 [],I),(.list Eb 0 [],I),(.str [],I)],.cells [(.int .i64 0,I),(.str v3,I),(sl 1 qv d.1,d.2.1),(sl 1 qx d.2.2.1,d.2.2.2),(.str [],I)]]⟩)
 | .inr d=>(.exit 0,⟨[(2,.ptr 0 0,I),(4,sl 1 qv v1,Eb),(5,.ax (.agg [.int .i64 v5.names,.int .i64 v5.values,.bool Eb]),I),(6,.int .i64 (qh .i64 ((qh .i64 (1+v5.names))+v5.values)),I),(7,.ptr 1 0,I),(8,.int .i64 d.1,I),(39,.bool I,I)],[.cells [(.int .i64 0,I),(.str [],I),(.list Eb 0 [],I),(.list Eb 0 [],I),(.str [],I)],.cells [(.int .i64 0,I),(.str v3,I),(sl 1 qv d.2.1,d.2.2.1),(sl 1 qx d.2.2.2.1,d.2.2.2.2),(.str [],I)]]⟩)
theorem jrj (v1:Option (List (List UInt8)))(v3:List UInt8)(v5:lm)(s0:Int×(Option (List (List UInt8)))×(Option (List Int))×Bool×Bool)(r)(h:pI v1 v3 v5 s0=Ea r):zd pr n9 (sS v1 v3 v5) (FL v1 v3 v5) s0 r:=by
 unfold pI at h
 rcases qc h with⟨gF,h⟩|⟨gF,h⟩
 ·obtain⟨sL,fF,h⟩:=qa h
  rcases qc h with⟨gP,h⟩|⟨gP,h⟩
  ·cases h
   exact qy (by simp only[go_sem,seval,n9,sS,gF,js fF,gP,FL]<;>rfl)
  ·rcases qc h with⟨hP,h⟩|⟨hP,h⟩
   ·rcases qc h with⟨lq,h⟩|⟨lq,h⟩
    ·obtain⟨Rb,Rf,h⟩:=qa h
     cases h
     exact jp (aN:=⟨[(2,.ptr 0 0,I),(4,sl 1 qv v1,Eb),(5,.ax (.agg [.int .i64 v5.names,.int .i64 v5.values,.bool Eb]),I),(6,.int .i64 (qh .i64 ((qh .i64 (1+v5.names))+v5.values)),I),(7,.ptr 1 0,I),(8,.int .i64 (qh .i64 (s0.1+1)),I)],[.cells [(.int .i64 0,I),(.str [],I),(.list Eb 0 [],I),(.list Eb 0 [],I),(.str [],I)],.cells [(.int .i64 0,I),(.str v3,I),(sl 1 qv Rb,Eb),(sl 1 qx s0.2.2.1,s0.2.2.2.2),(.str [],I)]]⟩) (by simp only[go_sem,seval,n9,sS,gF,js fF,gP,hP,lq,IX Rf]<;>rfl) (ju (Ec _))
    ·rcases qc h with⟨lW,h⟩|⟨lW,h⟩
     ·obtain⟨v46,FE,h⟩:=qa h
      cases h
      exact jp (aN:=⟨[(2,.ptr 0 0,I),(4,sl 1 qv v1,Eb),(5,.ax (.agg [.int .i64 v5.names,.int .i64 v5.values,.bool Eb]),I),(6,.int .i64 (qh .i64 ((qh .i64 (1+v5.names))+v5.values)),I),(7,.ptr 1 0,I),(8,.int .i64 (qh .i64 (s0.1+1)),I)],[.cells [(.int .i64 0,I),(.str [],I),(.list Eb 0 [],I),(.list Eb 0 [],I),(.str [],I)],.cells [(.int .i64 0,I),(.str v3,I),(sl 1 qv v46,Eb),(sl 1 qx s0.2.2.1,s0.2.2.2.2),(.str [],I)]]⟩) (by simp only[go_sem,seval,n9,sS,gF,js fF,gP,hP,lq,lW,IY FE lW]<;>rfl) (ju (Ec _))
     ·cases h
   ·obtain⟨Cj,Rg,h⟩:=qa h
    have pJ:ae pr (X pr) 144 [.str sL]=Ea (.av [.int .i64 Cj.1,.bool Cj.2],I):=jh6 Rg
    rcases qc h with⟨rG,h⟩|⟨rG,h⟩
    ·rw[rG]at pJ
     rcases qc h with⟨FM,h⟩|⟨FM,h⟩
     ·obtain⟨Rc,Rh,h⟩:=qa h
      cases h
      exact jp (aN:=⟨[(2,.ptr 0 0,I),(4,sl 1 qv v1,Eb),(5,.ax (.agg [.int .i64 v5.names,.int .i64 v5.values,.bool Eb]),I),(6,.int .i64 (qh .i64 ((qh .i64 (1+v5.names))+v5.values)),I),(7,.ptr 1 0,I),(8,.int .i64 (qh .i64 (s0.1+1)),I)],[.cells [(.int .i64 0,I),(.str [],I),(.list Eb 0 [],I),(.list Eb 0 [],I),(.str [],I)],.cells [(.int .i64 0,I),(.str v3,I),(sl 1 qv s0.2.1,s0.2.2.2.1),(sl 1 qx Rc,Eb),(.str [],I)]]⟩) (by simp only[go_sem,seval,n9,sS,gF,js fF,gP,hP,pJ,rG,FM,Qv Rh]<;>rfl) (ju (Ec _))
     ·rcases qc h with⟨wI,h⟩|⟨wI,h⟩
      ·obtain⟨wH,Q7,h⟩:=qa h
       cases h
       exact jp (aN:=⟨[(2,.ptr 0 0,I),(4,sl 1 qv v1,Eb),(5,.ax (.agg [.int .i64 v5.names,.int .i64 v5.values,.bool Eb]),I),(6,.int .i64 (qh .i64 ((qh .i64 (1+v5.names))+v5.values)),I),(7,.ptr 1 0,I),(8,.int .i64 (qh .i64 (s0.1+1)),I)],[.cells [(.int .i64 0,I),(.str [],I),(.list Eb 0 [],I),(.list Eb 0 [],I),(.str [],I)],.cells [(.int .i64 0,I),(.str v3,I),(sl 1 qv s0.2.1,s0.2.2.2.1),(sl 1 qx wH,Eb),(.str [],I)]]⟩) (by simp only[go_sem,seval,n9,sS,gF,js fF,gP,hP,pJ,rG,FM,wI,Qw Q7 wI]<;>rfl) (ju (Ec _))
      ·cases h
    ·rw[rG]at pJ
     cases h
     exact qy (by simp only[go_sem,seval,n9,sS,gF,js fF,gP,hP,pJ,rG,FL]<;>rfl)
 ·cases h
  exact qy (by simp only[go_sem,seval,n9,sS,gF,FL]<;>rfl)
theorem jcw (v1:Option (List (List UInt8)))(v3:List UInt8)(v5:lm){s0:Int×(Option (List (List UInt8)))×(Option (List Int))×Bool×Bool}{d}(h:bq (pI v1 v3 v5) s0=Ea d):X pr (.loop n9) (sS v1 v3 v5 s0)=Ea (FL v1 v3 v5 d):=ki (jrj v1 v3 v5) (fun d=>by rcases d with d|d<;>(intro hh;cases hh)) h
def f97 (a0:List UInt8):Option (aT×Bool):=
 qe (f95 a0 32) fun v1=>
 qe (jn (v1.getD []) 0) fun v3=>
 qe (f89 v3) fun v5=>
 cond v5.known
  (cond (decide (((v1.getD []).length:Int)=(qh .i64 ((qh .i64 (1+v5.names))+v5.values))))
   (qe (bq (pI v1 v3 v5) (1,Ek,Ek,I,I)) fun d57=>match d57 with
    | .inl d59=>
     Ea (⟨0,[],Ek,Ek,[]⟩,I)
    | .inr d60=>
     Ea (⟨0,v3,d60.2.1,d60.2.2.2.1,[]⟩,Eb))
   (Ea (⟨0,[],Ek,Ek,[]⟩,I)))
  (Ea (⟨0,[],Ek,Ek,[]⟩,I))
theorem W97 {a0:List UInt8}{r}(h:f97 a0=Ea r):ae pr (X pr) 97 [.str a0]=Ea (.av [.agg [.int .i64 r.1.number,.str r.1.kind,sl 1 qv r.1.names,sl 1 qx r.1.values,.str r.1.text],.bool r.2],I):=by
 unfold f97 at h
 obtain⟨v1,h2,h⟩:=qa h
 have cT:ae pr (X pr) 95 [.str a0,.int .u8 32]=Ea (sl 1 qv v1,Eb):=W95 h2
 obtain⟨v3,h4,h⟩:=qa h
 obtain⟨v5,h6,h⟩:=qa h
 have iR:ae pr (X pr) 89 [.str v3]=Ea (.agg [.int .i64 v5.names,.int .i64 v5.values,.bool v5.known],I):=W89 h6
 rcases qc h with⟨h7,h⟩|⟨h7,h⟩
 ·rw[h7]at iR
  rcases qc h with⟨h8,h⟩|⟨h8,h⟩
  ·obtain⟨d57,Jg,h⟩:=qa h
   rcases d57 with d59|d60
   ·have pF:X pr (.loop n9) ⟨[(2,.ptr 0 0,I),(4,sl 1 qv v1,Eb),(5,.ax (.agg [.int .i64 v5.names,.int .i64 v5.values,.bool Eb]),I),(6,.int .i64 (qh .i64 ((qh .i64 (1+v5.names))+v5.values)),I),(7,.ptr 1 0,I),(8,.int .i64 1,I)],[.cells [(.int .i64 0,I),(.str [],I),(.list Eb 0 [],I),(.list Eb 0 [],I),(.str [],I)],.cells [(.int .i64 0,I),(.str v3,I),(.list Eb 0 [],I),(.list Eb 0 [],I),(.str [],I)]]⟩=Ea (.ret,⟨[(2,.ptr 0 0,I),(3,.bool I,I)],[.cells [(.int .i64 0,I),(.str [],I),(.list Eb 0 [],I),(.list Eb 0 [],I),(.str [],I)],.cells [(.int .i64 0,I),(.str v3,I),(sl 1 qv d59.1,d59.2.1),(sl 1 qx d59.2.2.1,d59.2.2.2),(.str [],I)]]⟩):=jcw v1 v3 v5 Jg
    have hr:(⟨0,[],Ek,Ek,[]⟩,I)=r:=Ea.inj h
    subst hr
    have this:∃hh,ah pr (X pr) 97 [.str a0] []=Ea (.av [.agg [.int .i64 0,.str [],.list Eb 0 [],.list Eb 0 [],.str []],.bool I],I,hh):=by
     rw[qn (show pr.bn 97=Ea rH from rfl) (by simp)]
     simp only[go_sem,seval,rH,cT,js h4,iR,h7,h8,pF]
     exact⟨_,rfl⟩
    obtain⟨hh,this⟩:=this
    exact qm rfl this (by first|rfl|simp only[go_sem,seval]) (by first|rfl|simp only[go_sem,seval])
   ·have pF:X pr (.loop n9) ⟨[(2,.ptr 0 0,I),(4,sl 1 qv v1,Eb),(5,.ax (.agg [.int .i64 v5.names,.int .i64 v5.values,.bool Eb]),I),(6,.int .i64 (qh .i64 ((qh .i64 (1+v5.names))+v5.values)),I),(7,.ptr 1 0,I),(8,.int .i64 1,I)],[.cells [(.int .i64 0,I),(.str [],I),(.list Eb 0 [],I),(.list Eb 0 [],I),(.str [],I)],.cells [(.int .i64 0,I),(.str v3,I),(.list Eb 0 [],I),(.list Eb 0 [],I),(.str [],I)]]⟩=Ea (.exit 0,⟨[(2,.ptr 0 0,I),(4,sl 1 qv v1,Eb),(5,.ax (.agg [.int .i64 v5.names,.int .i64 v5.values,.bool Eb]),I),(6,.int .i64 (qh .i64 ((qh .i64 (1+v5.names))+v5.values)),I),(7,.ptr 1 0,I),(8,.int .i64 d60.1,I),(39,.bool I,I)],[.cells [(.int .i64 0,I),(.str [],I),(.list Eb 0 [],I),(.list Eb 0 [],I),(.str [],I)],.cells [(.int .i64 0,I),(.str v3,I),(sl 1 qv d60.2.1,d60.2.2.1),(sl 1 qx d60.2.2.2.1,d60.2.2.2.2),(.str [],I)]]⟩):=jcw v1 v3 v5 Jg
    have hr:(⟨0,v3,d60.2.1,d60.2.2.2.1,[]⟩,Eb)=r:=Ea.inj h
    subst hr
    have this:∃hh,ah pr (X pr) 97 [.str a0] []=Ea (.av [.agg [.int .i64 0,.str v3,sl 1 qv d60.2.1,sl 1 qx d60.2.2.2.1,.str []],.bool Eb],I,hh):=by
     rw[qn (show pr.bn 97=Ea rH from rfl) (by simp)]
     simp only[go_sem,seval,rH,cT,js h4,iR,h7,h8,pF]
     exact⟨_,rfl⟩
    obtain⟨hh,this⟩:=this
    exact qm rfl this (by first|rfl|simp only[go_sem,seval]) (by first|rfl|simp only[go_sem,seval])
  ·have hr:(⟨0,[],Ek,Ek,[]⟩,I)=r:=Ea.inj h
   subst hr
   have this:∃hh,ah pr (X pr) 97 [.str a0] []=Ea (.av [.agg [.int .i64 0,.str [],.list Eb 0 [],.list Eb 0 [],.str []],.bool I],I,hh):=by
    rw[qn (show pr.bn 97=Ea rH from rfl) (by simp)]
    simp only[go_sem,seval,rH,cT,js h4,iR,h7,h8]
    exact⟨_,rfl⟩
   obtain⟨hh,this⟩:=this
   exact qm rfl this (by first|rfl|simp only[go_sem,seval]) (by first|rfl|simp only[go_sem,seval])
 ·rw[h7]at iR
  have hr:(⟨0,[],Ek,Ek,[]⟩,I)=r:=Ea.inj h
  subst hr
  have this:∃hh,ah pr (X pr) 97 [.str a0] []=Ea (.av [.agg [.int .i64 0,.str [],.list Eb 0 [],.list Eb 0 [],.str []],.bool I],I,hh):=by
   rw[qn (show pr.bn 97=Ea rH from rfl) (by simp)]
   simp only[go_sem,seval,rH,cT,js h4,iR,h7]
   exact⟨_,rfl⟩
  obtain⟨hh,this⟩:=this
  exact qm rfl this (by first|rfl|simp only[go_sem,seval]) (by first|rfl|simp only[go_sem,seval])
def f86 (a0:List UInt8):Option (aT×Int):=
 cond (decide ((qh .i64 ((a0.length:Int)-8))<0))
  (Ea (⟨0,[],Ek,Ek,[]⟩,26))
  (qe (jn a0 (qh .i64 ((a0.length:Int)-8))) fun v2=>
  cond (decide ((v2.toNat:Int)=35))
   (qe (kc a0 (Ea (qh .i64 ((qh .i64 ((a0.length:Int)-8))+1))) Ek) fun v5=>
   qe (f143 v5) fun v7=>
   cond v7
    (qe (kc a0 Ek (Ea (qh .i64 ((a0.length:Int)-8)))) fun v10=>
    qe (f54 v10) fun v12=>
    cond (decide (v5=v12))
     (qe (f95 v10 32) fun eF=>
     qe (jn (eF.getD []) 0) fun iT=>
     qe (Cf iT) fun mQ=>
     cond mQ.2
      (cond (decide (((eF.getD []).length:Int)<2))
       (Ea (⟨0,[],Ek,Ek,[]⟩,26))
       (qe (kc v10 (Ea (qh .i64 ((iT.length:Int)+1))) Ek) fun v23=>
       qe (f97 v23) fun v25=>
       cond v25.2
        (qe (f33 (⟨mQ.1,v25.1.kind,v25.1.names,v25.1.values,v25.1.text⟩)) fun v28=>
        cond (decide (v28=0))
         (Ea (⟨mQ.1,v25.1.kind,v25.1.names,v25.1.values,v25.1.text⟩,0))
         (Ea (⟨0,[],Ek,Ek,[]⟩,26)))
        (Ea (⟨0,[],Ek,Ek,[]⟩,26))))
      (Ea (⟨0,[],Ek,Ek,[]⟩,26)))
     (Ea (⟨0,[],Ek,Ek,[]⟩,28)))
    (Ea (⟨0,[],Ek,Ek,[]⟩,26)))
   (Ea (⟨0,[],Ek,Ek,[]⟩,26)))
theorem W86 {a0:List UInt8}{r}(h:f86 a0=Ea r):ae pr (X pr) 86 [.str a0]=Ea (.av [.agg [.int .i64 r.1.number,.str r.1.kind,sl 1 qv r.1.names,sl 1 qx r.1.values,.str r.1.text],.int .i64 r.2],I):=by
 unfold f86 at h
 rcases qc h with⟨h1,h⟩|⟨h1,h⟩
 ·have hr:(⟨0,[],Ek,Ek,[]⟩,26)=r:=Ea.inj h
  subst hr
  have this:∃hh,ah pr (X pr) 86 [.str a0] []=Ea (.av [.agg [.int .i64 0,.str [],.list Eb 0 [],.list Eb 0 [],.str []],.int .i64 26],I,hh):=by
   rw[qn (show pr.bn 86=Ea iB from rfl) (by simp)]
   simp only[go_sem,seval,iB,h1]
   exact⟨_,rfl⟩
  obtain⟨hh,this⟩:=this
  exact qm rfl this (by first|rfl|simp only[go_sem,seval]) (by first|rfl|simp only[go_sem,seval])
 ·obtain⟨v2,h3,h⟩:=qa h
  rcases qc h with⟨h4,h⟩|⟨h4,h⟩
  ·obtain⟨v5,h6,h⟩:=qa h
   obtain⟨v7,h8,h⟩:=qa h
   have eQ:ae pr (X pr) 143 [.str v5]=Ea (.bool v7,I):=jzt h8
   rcases qc h with⟨h9,h⟩|⟨h9,h⟩
   ·obtain⟨v10,de,h⟩:=qa h
    obtain⟨v12,dM,h⟩:=qa h
    have gG:ae pr (X pr) 54 [.str v10]=Ea (.str v12,I):=W54 dM
    rcases qc h with⟨dw,h⟩|⟨dw,h⟩
    ·obtain⟨eF,jY,h⟩:=qa h
     have dx:ae pr (X pr) 95 [.str v10,.int .u8 32]=Ea (sl 1 qv eF,Eb):=W95 jY
     obtain⟨iT,mN,h⟩:=qa h
     obtain⟨mQ,jW,h⟩:=qa h
     have iz:ae pr (X pr) 144 [.str iT]=Ea (.av [.int .i64 mQ.1,.bool mQ.2],I):=jh6 jW
     rcases qc h with⟨dL,h⟩|⟨dL,h⟩
     ·rw[dL]at iz
      rcases qc h with⟨gj,h⟩|⟨gj,h⟩
      ·have hr:(⟨0,[],Ek,Ek,[]⟩,26)=r:=Ea.inj h
       subst hr
       have this:∃hh,ah pr (X pr) 86 [.str a0] []=Ea (.av [.agg [.int .i64 0,.str [],.list Eb 0 [],.list Eb 0 [],.str []],.int .i64 26],I,hh):=by
        rw[qn (show pr.bn 86=Ea iB from rfl) (by simp)]
        simp only[go_sem,seval,iB,h1,jk h3,h4,zw h6,eQ,h9,rC de,gG,dw,dx,js mN,iz,dL,gj]
        exact⟨_,rfl⟩
       obtain⟨hh,this⟩:=this
       exact qm rfl this (by first|rfl|simp only[go_sem,seval]) (by first|rfl|simp only[go_sem,seval])
      ·obtain⟨v23,lg,h⟩:=qa h
       obtain⟨v25,ez,h⟩:=qa h
       have pK:ae pr (X pr) 97 [.str v23]=Ea (.av [.agg [.int .i64 v25.1.number,.str v25.1.kind,sl 1 qv v25.1.names,sl 1 qx v25.1.values,.str v25.1.text],.bool v25.2],I):=W97 ez
       rcases qc h with⟨fJ,h⟩|⟨fJ,h⟩
       ·rw[fJ]at pK
        obtain⟨v28,nv,h⟩:=qa h
        have fY:ae pr (X pr) 33 [.agg [.int .i64 mQ.1,.str v25.1.kind,sl 1 qv v25.1.names,sl 1 qx v25.1.values,.str v25.1.text]]=Ea (.int .i64 v28,I):=W33 nv
        rcases qc h with⟨dS,h⟩|⟨dS,h⟩
        ·have hr:(⟨mQ.1,v25.1.kind,v25.1.names,v25.1.values,v25.1.text⟩,0)=r:=Ea.inj h
         subst hr
         have this:∃hh,ah pr (X pr) 86 [.str a0] []=Ea (.av [.agg [.int .i64 mQ.1,.str v25.1.kind,sl 1 qv v25.1.names,sl 1 qx v25.1.values,.str v25.1.text],.int .i64 0],I,hh):=by
          rw[qn (show pr.bn 86=Ea iB from rfl) (by simp)]
          simp only[go_sem,seval,iB,h1,jk h3,h4,zw h6,eQ,h9,rC de,gG,dw,dx,js mN,iz,dL,gj,zw lg,pK,fJ,fY,dS]
          exact⟨_,rfl⟩
         obtain⟨hh,this⟩:=this
         exact qm rfl this (by first|rfl|simp only[go_sem,seval]) (by first|rfl|simp only[go_sem,seval])
        ·have hr:(⟨0,[],Ek,Ek,[]⟩,26)=r:=Ea.inj h
         subst hr
         have this:∃hh,ah pr (X pr) 86 [.str a0] []=Ea (.av [.agg [.int .i64 0,.str [],.list Eb 0 [],.list Eb 0 [],.str []],.int .i64 26],I,hh):=by
          rw[qn (show pr.bn 86=Ea iB from rfl) (by simp)]
          simp only[go_sem,seval,iB,h1,jk h3,h4,zw h6,eQ,h9,rC de,gG,dw,dx,js mN,iz,dL,gj,zw lg,pK,fJ,fY,dS]
          exact⟨_,rfl⟩
         obtain⟨hh,this⟩:=this
         exact qm rfl this (by first|rfl|simp only[go_sem,seval]) (by first|rfl|simp only[go_sem,seval])
       ·rw[fJ]at pK
        have hr:(⟨0,[],Ek,Ek,[]⟩,26)=r:=Ea.inj h
        subst hr
        have this:∃hh,ah pr (X pr) 86 [.str a0] []=Ea (.av [.agg [.int .i64 0,.str [],.list Eb 0 [],.list Eb 0 [],.str []],.int .i64 26],I,hh):=by
         rw[qn (show pr.bn 86=Ea iB from rfl) (by simp)]
         simp only[go_sem,seval,iB,h1,jk h3,h4,zw h6,eQ,h9,rC de,gG,dw,dx,js mN,iz,dL,gj,zw lg,pK,fJ]
         exact⟨_,rfl⟩
        obtain⟨hh,this⟩:=this
        exact qm rfl this (by first|rfl|simp only[go_sem,seval]) (by first|rfl|simp only[go_sem,seval])
     ·rw[dL]at iz
      have hr:(⟨0,[],Ek,Ek,[]⟩,26)=r:=Ea.inj h
      subst hr
      have this:∃hh,ah pr (X pr) 86 [.str a0] []=Ea (.av [.agg [.int .i64 0,.str [],.list Eb 0 [],.list Eb 0 [],.str []],.int .i64 26],I,hh):=by
       rw[qn (show pr.bn 86=Ea iB from rfl) (by simp)]
       simp only[go_sem,seval,iB,h1,jk h3,h4,zw h6,eQ,h9,rC de,gG,dw,dx,js mN,iz,dL]
       exact⟨_,rfl⟩
      obtain⟨hh,this⟩:=this
      exact qm rfl this (by first|rfl|simp only[go_sem,seval]) (by first|rfl|simp only[go_sem,seval])
    ·have hr:(⟨0,[],Ek,Ek,[]⟩,28)=r:=Ea.inj h
     subst hr
     have this:∃hh,ah pr (X pr) 86 [.str a0] []=Ea (.av [.agg [.int .i64 0,.str [],.list Eb 0 [],.list Eb 0 [],.str []],.int .i64 28],I,hh):=by
      rw[qn (show pr.bn 86=Ea iB from rfl) (by simp)]
      simp only[go_sem,seval,iB,h1,jk h3,h4,zw h6,eQ,h9,rC de,gG,dw]
      exact⟨_,rfl⟩
     obtain⟨hh,this⟩:=this
     exact qm rfl this (by first|rfl|simp only[go_sem,seval]) (by first|rfl|simp only[go_sem,seval])
   ·have hr:(⟨0,[],Ek,Ek,[]⟩,26)=r:=Ea.inj h
    subst hr
    have this:∃hh,ah pr (X pr) 86 [.str a0] []=Ea (.av [.agg [.int .i64 0,.str [],.list Eb 0 [],.list Eb 0 [],.str []],.int .i64 26],I,hh):=by
     rw[qn (show pr.bn 86=Ea iB from rfl) (by simp)]
     simp only[go_sem,seval,iB,h1,jk h3,h4,zw h6,eQ,h9]
     exact⟨_,rfl⟩
    obtain⟨hh,this⟩:=this
    exact qm rfl this (by first|rfl|simp only[go_sem,seval]) (by first|rfl|simp only[go_sem,seval])
  ·have hr:(⟨0,[],Ek,Ek,[]⟩,26)=r:=Ea.inj h
   subst hr
   have this:∃hh,ah pr (X pr) 86 [.str a0] []=Ea (.av [.agg [.int .i64 0,.str [],.list Eb 0 [],.list Eb 0 [],.str []],.int .i64 26],I,hh):=by
    rw[qn (show pr.bn 86=Ea iB from rfl) (by simp)]
    simp only[go_sem,seval,iB,h1,jk h3,h4]
    exact⟨_,rfl⟩
   obtain⟨hh,this⟩:=this
   exact qm rfl this (by first|rfl|simp only[go_sem,seval]) (by first|rfl|simp only[go_sem,seval])
def pL (a0:List UInt8)(s0:(Option (List aT))×Int×Int×Bool):Option (((Option (List aT))×Int×Int×Bool)⊕(((Option (List aT))×Bool×Int×Int)⊕((Option (List aT))×Bool×Int×Int))):=
 cond (decide (s0.2.2.1<(a0.length:Int)))
  (qe (jn a0 s0.2.2.1) fun gE=>
  cond (decide ((gE.toNat:Int)=10))
   (qe (kc a0 (Ea s0.2.1) (Ea s0.2.2.1)) fun hY=>
   qe (f86 hY) fun jZ=>
   cond (decide (jZ.2=0))
    (cond (decide (jZ.1.number=(qh .i64 (((s0.1.getD []).length:Int)+1))))
     (cond s0.2.2.2
      (qe (cK s0.1 [jZ.1]) fun nZ=>
      Ea (.inl (nZ,qh .i64 (s0.2.2.1+1),qh .i64 (s0.2.2.1+1),Eb)))
      (cond s0.1.isNone
       (qe (cK s0.1 [jZ.1]) fun n6=>
       Ea (.inl (n6,qh .i64 (s0.2.2.1+1),qh .i64 (s0.2.2.1+1),Eb)))
       (Ek)))
     (Ea (.inr (.inl (s0.1,s0.2.2.2,s0.2.1,11)))))
    (Ea (.inr (.inl (s0.1,s0.2.2.2,s0.2.1,jZ.2)))))
   (Ea (.inl (s0.1,s0.2.1,qh .i64 (s0.2.2.1+1),s0.2.2.2))))
  (Ea (.inr (.inr (s0.1,s0.2.2.2,s0.2.1,s0.2.2.1))))
def uq (a0:List UInt8)(s0:(Option (List aT))×Int×Int×Bool):aV:=⟨[(0,.str a0,I),(5,sl 5 bX s0.1,s0.2.2.2),(6,.int .i64 s0.2.1,I),(7,.int .i64 s0.2.2.1,I)],[]⟩
def FN (a0:List UInt8):((Option (List aT))×Bool×Int×Int)⊕((Option (List aT))×Bool×Int×Int)→je×aV
 | .inl d=>(.ret,⟨[(2,sl 5 bX d.1,d.2.1),(3,.int .i64 d.2.2.1,I),(4,.int .i64 d.2.2.2,I)],[]⟩)
 | .inr d=>(.exit 0,⟨[(0,.str a0,I),(5,sl 5 bX d.1,d.2.1),(6,.int .i64 d.2.2.1,I),(7,.int .i64 d.2.2.2,I),(16,.bool I,I)],[]⟩)
theorem jsf (a0:List UInt8)(s0:(Option (List aT))×Int×Int×Bool)(r)(h:pL a0 s0=Ea r):zd pr pM (uq a0) (FN a0) s0 r:=by
 unfold pL at h
 rcases qc h with⟨dW,h⟩|⟨dW,h⟩
 ·obtain⟨gE,dS,h⟩:=qa h
  rcases qc h with⟨eE,h⟩|⟨eE,h⟩
  ·obtain⟨hY,mP,h⟩:=qa h
   obtain⟨jZ,du,h⟩:=qa h
   have nx:ae pr (X pr) 86 [.str hY]=Ea (.av [.agg [.int .i64 jZ.1.number,.str jZ.1.kind,sl 1 qv jZ.1.names,sl 1 qx jZ.1.values,.str jZ.1.text],.int .i64 jZ.2],I):=W86 du
   rcases qc h with⟨eP,h⟩|⟨eP,h⟩
   ·rcases qc h with⟨gF,h⟩|⟨gF,h⟩
    ·rcases qc h with⟨hO,h⟩|⟨hO,h⟩
     ·obtain⟨nZ,gP,h⟩:=qa h
      cases h
      exact jp (aN:=⟨[(0,.str a0,I),(5,sl 5 bX nZ,Eb),(6,.int .i64 (qh .i64 (s0.2.2.1+1)),I),(7,.int .i64 (qh .i64 (s0.2.2.1+1)),I)],[]⟩) (by simp only[go_sem,seval,pM,uq,dW,jk dS,eE,BT mP,nx,eP,gF,hO,tQ gP]<;>rfl) (ju (Ec _))
     ·rcases qc h with⟨hP,h⟩|⟨hP,h⟩
      ·obtain⟨n6,sM,h⟩:=qa h
       cases h
       exact jp (aN:=⟨[(0,.str a0,I),(5,sl 5 bX n6,Eb),(6,.int .i64 (qh .i64 (s0.2.2.1+1)),I),(7,.int .i64 (qh .i64 (s0.2.2.1+1)),I)],[]⟩) (by simp only[go_sem,seval,pM,uq,dW,jk dS,eE,BT mP,nx,eP,gF,hO,hP,ZP sM hP]<;>rfl) (ju (Ec _))
      ·cases h
    ·cases h
     exact qy (by simp only[go_sem,seval,pM,uq,dW,jk dS,eE,BT mP,nx,eP,gF,FN]<;>rfl)
   ·cases h
    exact qy (by simp only[go_sem,seval,pM,uq,dW,jk dS,eE,BT mP,nx,eP,FN]<;>rfl)
  ·cases h
   exact jp (aN:=⟨[(0,.str a0,I),(5,sl 5 bX s0.1,s0.2.2.2),(6,.int .i64 s0.2.1,I),(7,.int .i64 (qh .i64 (s0.2.2.1+1)),I)],[]⟩) (by simp only[go_sem,seval,pM,uq,dW,jk dS,eE]<;>rfl) (ju (Ec _))
 ·cases h
  exact qy (by simp only[go_sem,seval,pM,uq,dW,FN]<;>rfl)
theorem jdi (a0:List UInt8){s0:(Option (List aT))×Int×Int×Bool}{d}(h:bq (pL a0) s0=Ea d):X pr (.loop pM) (uq a0 s0)=Ea (FN a0 d):=ki (jsf a0) (fun d=>by rcases d with d|d<;>(intro hh;cases hh)) h
def f31 (a0:List UInt8):Option ((Option (List aT))×Int×Int):=
 cond (decide (1000000<(a0.length:Int)))
  (Ea (Ek,0,27))
  (qe (bq (pL a0) (Ek,0,0,I)) fun d44=>match d44 with
   | .inl d46=>
    Ea (d46.1,d46.2.2.1,d46.2.2.2)
   | .inr d47=>
    cond (decide (d47.2.2.1<(a0.length:Int)))
     (Ea (d47.1,d47.2.2.1,29))
     (Ea (d47.1,d47.2.2.1,0)))
theorem W31 {a0:List UInt8}{r}(h:f31 a0=Ea r):ae pr (X pr) 31 [.str a0]=Ea (.av [sl 5 bX r.1,.int .i64 r.2.1,.int .i64 r.2.2],I):=by
 unfold f31 at h
 rcases qc h with⟨h1,h⟩|⟨h1,h⟩
 ·have hr:(Ek,0,27)=r:=Ea.inj h
  subst hr
  have this:∃hh,ah pr (X pr) 31 [.str a0] []=Ea (.av [.list Eb 0 [],.int .i64 0,.int .i64 27],I,hh):=by
   rw[qn (show pr.bn 31=Ea rJ from rfl) (by simp)]
   simp only[go_sem,seval,rJ,h1]
   exact⟨_,rfl⟩
  obtain⟨hh,this⟩:=this
  exact qm rfl this (by first|rfl|simp only[go_sem,seval]) (by first|rfl|simp only[go_sem,seval])
 ·obtain⟨d44,lW,h⟩:=qa h
  rcases d44 with d46|d47
  ·have iA:X pr (.loop pM) ⟨[(0,.str a0,I),(5,.list Eb 0 [],I),(6,.int .i64 0,I),(7,.int .i64 0,I)],[]⟩=Ea (.ret,⟨[(2,sl 5 bX d46.1,d46.2.1),(3,.int .i64 d46.2.2.1,I),(4,.int .i64 d46.2.2.2,I)],[]⟩):=jdi a0 lW
   have hr:(d46.1,d46.2.2.1,d46.2.2.2)=r:=Ea.inj h
   subst hr
   have this:∃hh,ah pr (X pr) 31 [.str a0] []=Ea (.av [sl 5 bX d46.1,.int .i64 d46.2.2.1,.int .i64 d46.2.2.2],I,hh):=by
    rw[qn (show pr.bn 31=Ea rJ from rfl) (by simp)]
    simp only[go_sem,seval,rJ,h1,iA]
    exact⟨_,rfl⟩
   obtain⟨hh,this⟩:=this
   exact qm rfl this (by first|rfl|simp only[go_sem,seval]) (by first|rfl|simp only[go_sem,seval])
  ·have iA:X pr (.loop pM) ⟨[(0,.str a0,I),(5,.list Eb 0 [],I),(6,.int .i64 0,I),(7,.int .i64 0,I)],[]⟩=Ea (.exit 0,⟨[(0,.str a0,I),(5,sl 5 bX d47.1,d47.2.1),(6,.int .i64 d47.2.2.1,I),(7,.int .i64 d47.2.2.2,I),(16,.bool I,I)],[]⟩):=jdi a0 lW
   rcases qc h with⟨sK,h⟩|⟨sK,h⟩
   ·have hr:(d47.1,d47.2.2.1,29)=r:=Ea.inj h
    subst hr
    have this:∃hh,ah pr (X pr) 31 [.str a0] []=Ea (.av [sl 5 bX d47.1,.int .i64 d47.2.2.1,.int .i64 29],I,hh):=by
     rw[qn (show pr.bn 31=Ea rJ from rfl) (by simp)]
     simp only[go_sem,seval,rJ,h1,iA,sK]
     exact⟨_,rfl⟩
    obtain⟨hh,this⟩:=this
    exact qm rfl this (by first|rfl|simp only[go_sem,seval]) (by first|rfl|simp only[go_sem,seval])
   ·have hr:(d47.1,d47.2.2.1,0)=r:=Ea.inj h
    subst hr
    have this:∃hh,ah pr (X pr) 31 [.str a0] []=Ea (.av [sl 5 bX d47.1,.int .i64 d47.2.2.1,.int .i64 0],I,hh):=by
     rw[qn (show pr.bn 31=Ea rJ from rfl) (by simp)]
     simp only[go_sem,seval,rJ,h1,iA,sK]
     exact⟨_,rfl⟩
    obtain⟨hh,this⟩:=this
    exact qm rfl this (by first|rfl|simp only[go_sem,seval]) (by first|rfl|simp only[go_sem,seval])
end Go.Z
end
