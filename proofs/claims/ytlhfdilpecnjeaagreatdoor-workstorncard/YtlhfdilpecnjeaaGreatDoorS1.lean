/- Chapter 10. -/
import Derived.Test.YtlhfdilpecnjeaaGreatDoorV9
set_option linter.unusedVariables false
set_option linter.unusedSimpArgs false
set_option maxRecDepth 100000
set_option maxHeartbeats 4000000
noncomputable section
open Bool renaming false->En
open Option renaming some->E6
namespace Go.Z
open Go Go.Abs Go.W
def zV (V:Int×aj):Option ((Int×aj)⊕((Int×aj))):=
 cond (decide (0<V.1))
  (qa (jT V.1 10) fun v21=>
  qa (gZ ((Utf8.encode (qd .i32 (qd .i64 (48+v21)))).data.toList) V.2) fun v23=>
  qa (zI .i64 V.1 10) fun v25=>
  E6 (.inl (v25,v23)))
  (E6 (.inr (V.1,V.2)))
def PA (V:Int×aj):bn:=⟨[(0,Iv V.1,En),(3,.str V.2,En)],[]⟩
def YJ (d:(Int×aj)):jb×bn:=(.exit 0,⟨[(0,Iv d.1,En),(3,.str d.2,En),(18,.bool En,En)],[]⟩)
theorem j9g (V:Int×aj)(r)(h:zV V=E6 r):jy pr GO (PA) (YJ) V r:=by
 unfold zV at h;rcases qc h with⟨s7,h⟩|⟨s7,h⟩
 .obtain⟨v21,nz,h⟩:=qb h;obtain⟨v23,wG,h⟩:=qb h;obtain⟨v25,rR,h⟩:=qb h;cases h;exact kp (bP:=⟨[(0,Iv v25,En),(3,.str v23,En)],[]⟩) (by simp only[go_sem,seval,GO,PA,s7,zz nz,ym wG,jcx rR]<;>rfl) (jQ (Nat.le_refl _))
 .cases h;exact qu (by simp only[go_sem,seval,GO,PA,s7,YJ]<;>rfl)
theorem j7c {V:Int×aj}{d}(h:bq (zV) V=E6 d):X pr (.loop GO) (PA V)=E6 (YJ d):=lT (j9g) (fun d hh=>by cases hh) h
def f86 (O:Int):Option aj:=
 cond (decide (O<0))
  (none)
  (qa (jT O 10) fun v2=>
  qa (zI .i64 O 10) fun v4=>
  qa (bq (zV) (v4,(Utf8.encode (qd .i32 (qd .i64 (48+v2)))).data.toList)) fun d27=>
  E6 d27.2)
theorem W86 {O:Int}{r}(h:f86 O=E6 r):ae pr (X pr) 86 [Iv O]=E6 (.str r,En):=by
 unfold f86 at h;rcases qc h with⟨Y,h⟩|⟨Y,h⟩
 .cases h
 .obtain⟨v2,h3,h⟩:=qb h;obtain⟨v4,h5,h⟩:=qb h;obtain⟨d27,vJ,h⟩:=qb h;have tM:X pr (.loop GO) ⟨[(0,Iv v4,En),(3,.str ((Utf8.encode (qd .i32 (qd .i64 (48+v2)))).data.toList),En)],[]⟩=E6 (.exit 0,⟨[(0,Iv d27.1,En),(3,.str d27.2,En),(18,.bool En,En)],[]⟩):=j7c vJ;have Q:d27.2=r:=E6.inj h;subst Q
  have this:∃hh,ai pr (X pr) 86 [Iv O] []=E6 (.str d27.2,En,hh):=by
   rw[qg (show pr.br 86=E6 YK from rfl) (by simp)];simp only[go_sem,seval,YK,Y,zz h3,jcx h5,tM];exact⟨_,rfl⟩
  obtain⟨hh,this⟩:=this;exact jr rfl this (by first|rfl|simp only[go_sem,seval]) (by first|rfl|simp only[go_sem,seval])
def f34 (O:Int):Option aj:=
 qa (f86 O) fun v1=>
 E6 v1
theorem YL {O:Int}{r}(h:f34 O=E6 r):ae pr (X pr) 34 [Iv O]=E6 (.str r,En):=by
 unfold f34 at h;refine zg YM ?_
 repeat' first|(replace h:=qb h;obtain⟨d,g,h⟩:=h;with_reducible first|replace g:=W86 g|skip)|(replace h:=qc h;rcases h with⟨g,h⟩|⟨g,h⟩)
 all_goals (cases h<;>(simp only[go_sem,seval,YM, *];exact⟨_,rfl⟩))
def PB (O:aj)(V:Int×Int):Option ((Int×Int)⊕((Int×Int))):=
 cond (decide (V.2<(O.length:Int)))
  (qa (qm O V.2) fun v12=>
  qa (jT (qd .i64 ((qd .i64 (313*V.1))+(qd .i64 (v12.toNat:Int)))) 9999889) fun dj=>
  E6 (.inl (dj,qd .i64 (V.2+1))))
  (E6 (.inr (V.1,V.2)))
def zW (O:GEv)(V:aj×Int):Option ((aj×Int)⊕((aj×Int))):=
 cond (decide (V.2<((O.names.getD []).length:Int)))
  (qa (gZ V.1 ([32]:aj)) fun v22=>
  qa (qm (O.names.getD []) V.2) fun v24=>
  qa (gZ v22 v24) fun v26=>
  E6 (.inl (v26,qd .i64 (V.2+1))))
  (E6 (.inr (V.1,V.2)))
def PD (O:GEv)(V:aj×Int):bn:=⟨[(1,.aq (aE O),En),(3,.str V.1,En),(4,Iv V.2,En)],[]⟩
def YN (O:GEv)(d:(aj×Int)):jb×bn:=(.exit 0,⟨[(1,.aq (aE O),En),(3,.str d.1,En),(4,Iv d.2,En),(17,.bool En,En)],[]⟩)
theorem j9b (O:GEv)(V:aj×Int)(r)(h:zW O V=E6 r):jy pr GQ (PD O) (YN O) V r:=by
 unfold zW at h;rcases qc h with⟨pe,h⟩|⟨pe,h⟩
 .obtain⟨v22,pf,h⟩:=qb h;obtain⟨v24,wH,h⟩:=qb h;obtain⟨v26,ot,h⟩:=qb h;cases h;exact kp (bP:=⟨[(1,.aq (aE O),En),(3,.str v26,En),(4,Iv (qd .i64 (V.2+1)),En)],[]⟩) (by simp only[go_sem,seval,GQ,PD,pe,ym pf,jm wH,ym ot]<;>rfl) (jQ (Nat.le_refl _))
 .cases h;exact qu (by simp only[go_sem,seval,GQ,PD,pe,YN]<;>rfl)
theorem j5h (O:GEv){V:aj×Int}{d}(h:bq (zW O) V=E6 d):X pr (.loop GQ) (PD O V)=E6 (YN O d):=lT (j9b O) (fun d hh=>by cases hh) h
def xl (O:GEv)(s1:aj×Int):Option ((aj×Int)⊕((aj×Int))):=
 cond (decide (s1.2<((O.values.getD []).length:Int)))
  (qa (gZ s1.1 ([32]:aj)) fun v49=>
  qa (qm (O.values.getD []) s1.2) fun v51=>
  qa (f34 v51) fun v53=>
  qa (gZ v49 v53) fun GR=>
  E6 (.inl (GR,qd .i64 (s1.2+1))))
  (E6 (.inr (s1.1,s1.2)))
def PE (O:GEv)(s1:aj×Int):bn:=⟨[(1,.aq (aE O),En),(3,.str s1.1,En),(5,Iv s1.2,En)],[]⟩
def YO (O:GEv)(d:(aj×Int)):jb×bn:=(.exit 2,⟨[(1,.aq (aE O),En),(3,.str d.1,En),(5,Iv d.2,En),(32,.bool En,En)],[]⟩)
theorem j9q (O:GEv)(s1:aj×Int)(r)(h:xl O s1=E6 r):jy pr GU (PE O) (YO O) s1 r:=by
 unfold xl at h;rcases qc h with⟨GV,h⟩|⟨GV,h⟩
 .obtain⟨v49,KI,h⟩:=qb h;obtain⟨v51,h52,h⟩:=qb h;obtain⟨v53,GX,h⟩:=qb h;have YP:ae pr (X pr) 34 [Iv v51]=E6 (.str v53,En):=YL GX;obtain⟨GR,PF,h⟩:=qb h;cases h;exact kp (bP:=⟨[(1,.aq (aE O),En),(3,.str GR,En),(5,Iv (qd .i64 (s1.2+1)),En)],[]⟩) (by simp only[go_sem,seval,GU,PE,GV,ym KI,jm h52,YP,ym PF]<;>rfl) (jQ (Nat.le_refl _))
 .cases h;exact qu (by simp only[go_sem,seval,GU,PE,GV,YO]<;>rfl)
theorem j5w (O:GEv){s1:aj×Int}{d}(h:bq (xl O) s1=E6 d):X pr (.loop GU) (PE O s1)=E6 (YO O d):=lT (j9q O) (fun d hh=>by cases hh) h
def f50 (O:GEv):Option aj:=
 qa (f34 O.number) fun v1=>
 qa (gZ v1 ([32]:aj)) fun v3=>
 qa (gZ v3 O.kind) fun v5=>
 qa (bq (zW O) (v5,0)) fun d28=>
 qa (bq (xl O) (d28.1,0)) fun d57=>
 E6 d57.1
theorem W50 {O:GEv}{r}(h:f50 O=E6 r):ae pr (X pr) 50 [aE O]=E6 (.str r,En):=by
 unfold f50 at h;obtain⟨v1,I,h⟩:=qb h;have gE:ae pr (X pr) 34 [Iv O.number]=E6 (.str v1,En):=YL I;obtain⟨v3,h4,h⟩:=qb h;obtain⟨v5,h6,h⟩:=qb h;obtain⟨d28,zN,h⟩:=qb h;have YQ:X pr (.loop GQ) ⟨[(1,.aq (aE O),En),(3,.str v5,En),(4,Iv 0,En)],[]⟩=E6 (.exit 0,⟨[(1,.aq (aE O),En),(3,.str d28.1,En),(4,Iv d28.2,En),(17,.bool En,En)],[]⟩):=j5h O zN;obtain⟨d57,h58,h⟩:=qb h;have YR:X pr (.loop GU) ⟨[(1,.aq (aE O),En),(3,.str d28.1,En),(5,Iv 0,En)],[]⟩=E6 (.exit 2,⟨[(1,.aq (aE O),En),(3,.str d57.1,En),(5,Iv d57.2,En),(32,.bool En,En)],[]⟩):=j5w O h58;have Q:d57.1=r:=E6.inj h;subst Q
 have this:∃hh,ai pr (X pr) 50 [aE O] []=E6 (.str d57.1,En,hh):=by
  rw[qg (show pr.br 50=E6 YS from rfl) (by simp)];simp only[go_sem,seval,YS,gE,ym h4,ym h6,YQ,YR];exact⟨_,rfl⟩
 obtain⟨hh,this⟩:=this;exact jr rfl this (by first|rfl|simp only[go_sem,seval]) (by first|rfl|simp only[go_sem,seval])
end Go.Z
namespace Go.Z
open Go Go.Abs Go.W
def zX (O:ak Int)(J:ak Int)(V:Int):Option (Int⊕(Unit⊕Int)):=
 cond (decide (V<((O.getD []).length:Int)))
  (qa (qm (O.getD []) V) fun dL=>
  qa (qm (J.getD []) V) fun fj=>
  cond (decide (dL=fj))
   (E6 (.inl (qd .i64 (V+1))))
   (E6 (.inr (.inl ()))))
  (E6 (.inr (.inr V)))
def PG (O:ak Int)(J:ak Int)(V:Int):bn:=⟨[(0,sl 1 jt O,En),(1,sl 1 jt J,En),(5,Iv V,En)],[]⟩
def PH (O:ak Int)(J:ak Int):Unit⊕Int->jb×bn
 | .inl d=>(.ret,⟨[(4,.bool En,En)],[]⟩)| .inr d=>(.exit 0,⟨[(0,sl 1 jt O,En),(1,sl 1 jt J,En),(5,Iv d,En),(14,.bool En,En)],[]⟩)
theorem j9e (O:ak Int)(J:ak Int)(V:Int)(r)(h:zX O J V=E6 r):jy pr PI (PG O J) (PH O J) V r:=by
 unfold zX at h
 repeat' first|(replace h:=qb h;obtain⟨d,g,h⟩:=h)|(replace h:=qc h;rcases h with⟨g,h⟩|⟨g,h⟩)
 all_goals (cases h<;>((first|refine qu ?_|refine jz ?_);simp only[go_sem,seval,PI,PG,jq,PH, *]<;>rfl))
theorem j89 (O:ak Int)(J:ak Int){V:Int}{d}(h:bq (zX O J) V=E6 d):X pr (.loop PI) (PG O J V)=E6 (PH O J d):=lT (j9e O J) (fun d=>by rcases d with d|d<;>(intro hh;cases hh)) h
def f44 (O:ak Int)(J:ak Int):Option Bool:=
 cond (decide (((O.getD []).length:Int)=((J.getD []).length:Int)))
  (qa (bq (zX O J) 0) fun d20=>match d20 with
   | .inl d22=>
    E6 En
   | .inr d23=>
    E6 true)
  (E6 En)
theorem W44 {O:ak Int}{J:ak Int}{r}(h:f44 O J=E6 r):ae pr (X pr) 44 [sl 1 jt O,sl 1 jt J]=E6 (.bool r,En):=by
 unfold f44 at h;refine zg YT ?_
 repeat' first|(replace h:=qb h;obtain⟨d,g,h⟩:=h;with_reducible first|(replace g:=j89 O J g;rcases d with d|d<;>dsimp only[PG,PH,zr]at g h)|skip)|(replace h:=qc h;rcases h with⟨g,h⟩|⟨g,h⟩)
 all_goals (cases h<;>(simp only[go_sem,seval,YT, *];exact⟨_,rfl⟩))
def zY (O:ak GEv)(J:ak GEv)(V:Int):Option (Int⊕(Unit⊕Int)):=
 cond (decide (V<((O.getD []).length:Int)))
  (qa (qm (O.getD []) V) fun v31=>
  qa (qm (J.getD []) V) fun ox=>
  cond (decide (v31.number=ox.number))
   (cond (decide (v31.kind=ox.kind))
    (qa (f24 v31.names ox.names) fun v37=>
    cond v37
     (qa (f44 v31.values ox.values) fun v40=>
     cond v40
      (cond (decide (v31.text=ox.text))
       (E6 (.inl (qd .i64 (V+1))))
       (E6 (.inr (.inl ()))))
      (E6 (.inr (.inl ()))))
     (E6 (.inr (.inl ()))))
    (E6 (.inr (.inl ()))))
   (E6 (.inr (.inl ()))))
  (E6 (.inr (.inr V)))
def PJ (O:ak GEv)(J:ak GEv)(V:Int):bn:=⟨[(0,sl 5 vev O,En),(1,sl 5 vev J,En),(5,Iv V,En)],[]⟩
def PK (O:ak GEv)(J:ak GEv):Unit⊕Int->jb×bn
 | .inl d=>(.ret,⟨[(4,.bool En,En)],[]⟩)| .inr d=>(.exit 0,⟨[(0,sl 5 vev O,En),(1,sl 5 vev J,En),(5,Iv d,En),(14,.bool En,En)],[]⟩)
theorem j47 (O:ak GEv)(J:ak GEv)(V:Int)(r)(h:zY O J V=E6 r):jy pr PL (PJ O J) (PK O J) V r:=by
 unfold zY at h
 repeat' first|(replace h:=qb h;obtain⟨d,g,h⟩:=h;with_reducible first|replace g:=W24 g|replace g:=W44 g|skip)|(replace h:=qc h;rcases h with⟨g,h⟩|⟨g,h⟩)
 all_goals (cases h<;>((first|refine qu ?_|refine jz ?_);simp only[go_sem,seval,PL,PJ,jq,PK, *]<;>rfl))
theorem j52 (O:ak GEv)(J:ak GEv){V:Int}{d}(h:bq (zY O J) V=E6 d):X pr (.loop PL) (PJ O J V)=E6 (PK O J d):=lT (j47 O J) (fun d=>by rcases d with d|d<;>(intro hh;cases hh)) h
def f11 (O:ak GEv)(J:ak GEv):Option Bool:=
 cond (decide (((O.getD []).length:Int)=((J.getD []).length:Int)))
  (qa (bq (zY O J) 0) fun d44=>match d44 with
   | .inl d46=>
    E6 En
   | .inr d47=>
    E6 true)
  (E6 En)
theorem W11 {O:ak GEv}{J:ak GEv}{r}(h:f11 O J=E6 r):ae pr (X pr) 11 [sl 5 vev O,sl 5 vev J]=E6 (.bool r,En):=by
 unfold f11 at h;refine zg YU ?_
 repeat' first|(replace h:=qb h;obtain⟨d,g,h⟩:=h;with_reducible first|(replace g:=j52 O J g;rcases d with d|d<;>dsimp only[PJ,PK,zr]at g h)|skip)|(replace h:=qc h;rcases h with⟨g,h⟩|⟨g,h⟩)
 all_goals (cases h<;>(simp only[go_sem,seval,YU, *];exact⟨_,rfl⟩))
end Go.Z
end
