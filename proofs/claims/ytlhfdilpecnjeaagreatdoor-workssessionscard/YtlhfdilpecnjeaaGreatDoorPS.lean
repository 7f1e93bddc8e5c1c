/- Chapter 10. -/
import Derived.Test.YtlhfdilpecnjeaaGreatDoorW12
import Derived.Test.YtlhfdilpecnjeaaGreatDoorAZ
set_option linter.all false
set_option maxRecDepth 100000
set_option maxHeartbeats 4000000
noncomputable section
open Bool renaming false->En,true->Ha,false_beq->Hq,not_false->H2,and_self->If,true_beq->Ig,not_true->Ii,not_not->Ij
open Option renaming some->Ga,none->Gb
open Nat renaming le_refl->Gd,ble->Hb,blt->Hc
namespace Go.Z
open Go Go.Abs Go.W
def Ak (V:Int×aj):Option ((Int×aj)⊕((Int×aj))):=
 cond (decide (0<V.1))
  (qa (sC V.1 10) fun v21=>
  qa (gA ((Utf8.encode (qd .i32 (qd .i64 (48+v21)))).data.toList) V.2) fun v23=>
  qa (Af .i64 V.1 10) fun v25=>
  Ga (.inl (v25,v23)))
  (Ga (.inr (V.1,V.2)))
def P7 (V:Int×aj):bg:=⟨[(0,Iv V.1,En),(3,.str V.2,En)],[]⟩
def ZB (d:(Int×aj)):q9×bg:=(.exit 0,⟨[(0,Iv d.1,En),(3,.str d.2,En),(18,.bool En,En)],[]⟩)
theorem j45 (V:Int×aj)(r)(h:Ak V=Ga r):jo pr G7 (P7) (ZB) V r:=by
 unfold Ak at h;rcases qc h with⟨nx,h⟩|⟨nx,h⟩
 .obtain⟨v21,gj,h⟩:=qb h;obtain⟨v23,lu,h⟩:=qb h;obtain⟨v25,mP,h⟩:=qb h;cases h;exact z5 (bH:=⟨[(0,Iv v25,En),(3,.str v23,En)],[]⟩) (by simp only[go_sem,seval,G7,P7,nx,PB gj,lA lu,jc6 mP]<;>rfl) (yg (Gd _))
 .cases h;exact qn (by simp only[go_sem,seval,G7,P7,nx,ZB]<;>rfl)
theorem j81 {V:Int×aj}{d}(h:bd (Ak) V=Ga d):X pr (.loop G7) (P7 V)=Ga (ZB d):=kz (j45) (fun d hh=>by cases hh) h
def f86 (O:Int):Option aj:=
 cond (decide (O<0))
  (Gb)
  (qa (sC O 10) fun v2=>
  qa (Af .i64 O 10) fun v4=>
  qa (bd (Ak) (v4,(Utf8.encode (qd .i32 (qd .i64 (48+v2)))).data.toList)) fun d27=>
  Ga d27.2)
theorem W86 {O:Int}{r}(h:f86 O=Ga r):ae pr (X pr) 86 [Iv O]=Ga (.str r,En):=by
 unfold f86 at h;rcases qc h with⟨Y,h⟩|⟨Y,h⟩
 .cases h
 .obtain⟨v2,h3,h⟩:=qb h;obtain⟨v4,h5,h⟩:=qb h;obtain⟨d27,jI,h⟩:=qb h;have tY:X pr (.loop G7) ⟨[(0,Iv v4,En),(3,.str ((Utf8.encode (qd .i32 (qd .i64 (48+v2)))).data.toList),En)],[]⟩=Ga (.exit 0,⟨[(0,Iv d27.1,En),(3,.str d27.2,En),(18,.bool En,En)],[]⟩):=j81 jI;have Q:d27.2=r:=Ga.inj h;subst Q
  have this:∃hh,ai pr (X pr) 86 [Iv O] []=Ga (.str d27.2,En,hh):=by
   rw[qg (show pr.br 86=Ga ZC from rfl) (by simp)];simp only[go_sem,seval,ZC,Y,PB h3,jc6 h5,tY];exact⟨_,rfl⟩
  obtain⟨hh,this⟩:=this;exact je rfl this (by first|rfl|simp only[go_sem,seval]) (by first|rfl|simp only[go_sem,seval])
def f34 (O:Int):Option aj:=
 qa (f86 O) fun v1=>
 Ga v1
theorem K4 {O:Int}{r}(h:f34 O=Ga r):ae pr (X pr) 34 [Iv O]=Ga (.str r,En):=by
 unfold f34 at h;refine jz ZD ?_
 repeat' first|(replace h:=qb h;obtain⟨d,g,h⟩:=h;with_reducible first|replace g:=W86 g|skip)|(replace h:=qc h;rcases h with⟨g,h⟩|⟨g,h⟩)
 all_goals (cases h<;>(simp only[go_sem,seval,ZD, *];exact⟨_,rfl⟩))
def xN (O:aj)(V:Int×Int):Option ((Int×Int)⊕((Int×Int))):=
 cond (decide (V.2<(O.length:Int)))
  (qa (ql O V.2) fun v12=>
  qa (sC (qd .i64 ((qd .i64 (313*V.1))+(qd .i64 (v12.toNat:Int)))) 9999889) fun da=>
  Ga (.inl (da,qd .i64 (V.2+1))))
  (Ga (.inr (V.1,V.2)))
def K5 (O:aj)(V:Int×Int):bg:=⟨[(0,.str O,En),(3,Iv V.1,En),(4,Iv V.2,En)],[]⟩
def P8 (O:aj)(d:(Int×Int)):q9×bg:=(.exit 0,⟨[(0,.str O,En),(3,Iv d.1,En),(4,Iv d.2,En),(9,.bool En,En)],[]⟩)
theorem j72 (O:aj)(V:Int×Int)(r)(h:xN O V=Ga r):jo pr K6 (K5 O) (P8 O) V r:=by
 unfold xN at h;rcases qc h with⟨ei,h⟩|⟨ei,h⟩
 .obtain⟨v12,fX,h⟩:=qb h;obtain⟨da,l4,h⟩:=qb h;cases h;exact z5 (bH:=⟨[(0,.str O,En),(3,Iv da,En),(4,Iv (qd .i64 (V.2+1)),En)],[]⟩) (by simp only[go_sem,seval,K6,K5,ei,yp fX,PB l4]<;>rfl) (yg (Gd _))
 .cases h;exact qn (by simp only[go_sem,seval,K6,K5,ei,P8]<;>rfl)
theorem j5y (O:aj){V:Int×Int}{d}(h:bd (xN O) V=Ga d):X pr (.loop K6) (K5 O V)=Ga (P8 O d):=kz (j72 O) (fun d hh=>by cases hh) h
def Ct (s1:aj):Option (aj⊕(aj)):=
 cond (decide ((s1.length:Int)<7))
  (qa (gA ([48]:aj) s1) fun nD=>
  Ga (.inl nD))
  (Ga (.inr s1))
def K7 (s1:aj):bg:=⟨[(5,.str s1,En)],[]⟩
def P9 (d:aj):q9×bg:=(.exit 2,⟨[(5,.str d,En),(24,.bool En,En)],[]⟩)
theorem j5p (s1:aj)(r)(h:Ct s1=Ga r):jo pr K8 (K7) (P9) s1 r:=by
 unfold Ct at h;rcases qc h with⟨mP,h⟩|⟨mP,h⟩
 .obtain⟨nD,jI,h⟩:=qb h;cases h;exact z5 (bH:=⟨[(5,.str nD,En)],[]⟩) (by simp only[go_sem,seval,K8,K7,mP,lA jI]<;>rfl) (yg (Gd _))
 .cases h;exact qn (by simp only[go_sem,seval,K8,K7,mP,P9]<;>rfl)
theorem j42 {s1:aj}{d}(h:bd (Ct) s1=Ga d):X pr (.loop K8) (K7 s1)=Ga (P9 d):=kz (j5p) (fun d hh=>by cases hh) h
def f25 (O:aj):Option aj:=
 qa (bd (xN O) (1,0)) fun d16=>
 qa (f34 d16.1) fun eE=>
 qa (bd (Ct) eE) fun d29=>
 Ga d29
theorem W25 {O:aj}{r}(h:f25 O=Ga r):ae pr (X pr) 25 [.str O]=Ga (.str r,En):=by
 unfold f25 at h;refine jz ZE ?_
 repeat' first|(replace h:=qb h;obtain⟨d,g,h⟩:=h;with_reducible first|replace g:=K4 g|(replace g:=j5y O g;dsimp only[K5,P8,zc]at g h)|(replace g:=j42 g;dsimp only[K7,P9,zc]at g h)|skip)|(replace h:=qc h;rcases h with⟨g,h⟩|⟨g,h⟩)
 all_goals (cases h<;>(simp only[go_sem,seval,ZE, *];exact⟨_,rfl⟩))
def Al (O:aC)(V:aj×Int):Option ((aj×Int)⊕((aj×Int))):=
 cond (decide (V.2<((O.names.getD []).length:Int)))
  (qa (gA V.1 ([32]:aj)) fun v22=>
  qa (ql (O.names.getD []) V.2) fun v24=>
  qa (gA v22 v24) fun v26=>
  Ga (.inl (v26,qd .i64 (V.2+1))))
  (Ga (.inr (V.1,V.2)))
def Qa (O:aC)(V:aj×Int):bg:=⟨[(1,.aq (aE O),En),(3,.str V.1,En),(4,Iv V.2,En)],[]⟩
def ZF (O:aC)(d:(aj×Int)):q9×bg:=(.exit 0,⟨[(1,.aq (aE O),En),(3,.str d.1,En),(4,Iv d.2,En),(17,.bool En,En)],[]⟩)
theorem j8p (O:aC)(V:aj×Int)(r)(h:Al O V=Ga r):jo pr G8 (Qa O) (ZF O) V r:=by
 unfold Al at h;rcases qc h with⟨iq,h⟩|⟨iq,h⟩
 .obtain⟨v22,pL,h⟩:=qb h;obtain⟨v24,qO,h⟩:=qb h;obtain⟨v26,nC,h⟩:=qb h;cases h;exact z5 (bH:=⟨[(1,.aq (aE O),En),(3,.str v26,En),(4,Iv (qd .i64 (V.2+1)),En)],[]⟩) (by simp only[go_sem,seval,G8,Qa,iq,lA pL,jn qO,lA nC]<;>rfl) (yg (Gd _))
 .cases h;exact qn (by simp only[go_sem,seval,G8,Qa,iq,ZF]<;>rfl)
theorem j7i (O:aC){V:aj×Int}{d}(h:bd (Al O) V=Ga d):X pr (.loop G8) (Qa O V)=Ga (ZF O d):=kz (j8p O) (fun d hh=>by cases hh) h
def xO (O:aC)(s1:aj×Int):Option ((aj×Int)⊕((aj×Int))):=
 cond (decide (s1.2<((O.values.getD []).length:Int)))
  (qa (gA s1.1 ([32]:aj)) fun v49=>
  qa (ql (O.values.getD []) s1.2) fun v51=>
  qa (f34 v51) fun v53=>
  qa (gA v49 v53) fun K9=>
  Ga (.inl (K9,qd .i64 (s1.2+1))))
  (Ga (.inr (s1.1,s1.2)))
def Qb (O:aC)(s1:aj×Int):bg:=⟨[(1,.aq (aE O),En),(3,.str s1.1,En),(5,Iv s1.2,En)],[]⟩
def ZG (O:aC)(d:(aj×Int)):q9×bg:=(.exit 2,⟨[(1,.aq (aE O),En),(3,.str d.1,En),(5,Iv d.2,En),(32,.bool En,En)],[]⟩)
theorem j6j (O:aC)(s1:aj×Int)(r)(h:xO O s1=Ga r):jo pr G9 (Qb O) (ZG O) s1 r:=by
 unfold xO at h;rcases qc h with⟨Hd,h⟩|⟨Hd,h⟩
 .obtain⟨v49,La,h⟩:=qb h;obtain⟨v51,h52,h⟩:=qb h;obtain⟨v53,h54,h⟩:=qb h;have ZH:ae pr (X pr) 34 [Iv v51]=Ga (.str v53,En):=K4 h54;obtain⟨K9,h56,h⟩:=qb h;cases h;exact z5 (bH:=⟨[(1,.aq (aE O),En),(3,.str K9,En),(5,Iv (qd .i64 (s1.2+1)),En)],[]⟩) (by simp only[go_sem,seval,G9,Qb,Hd,lA La,jn h52,ZH,lA h56]<;>rfl) (yg (Gd _))
 .cases h;exact qn (by simp only[go_sem,seval,G9,Qb,Hd,ZG]<;>rfl)
theorem j7u (O:aC){s1:aj×Int}{d}(h:bd (xO O) s1=Ga d):X pr (.loop G9) (Qb O s1)=Ga (ZG O d):=kz (j6j O) (fun d hh=>by cases hh) h
def f50 (O:aC):Option aj:=
 qa (f34 O.number) fun v1=>
 qa (gA v1 ([32]:aj)) fun v3=>
 qa (gA v3 O.kind) fun v5=>
 qa (bd (Al O) (v5,0)) fun d28=>
 qa (bd (xO O) (d28.1,0)) fun d57=>
 Ga d57.1
theorem W50 {O:aC}{r}(h:f50 O=Ga r):ae pr (X pr) 50 [aE O]=Ga (.str r,En):=by
 unfold f50 at h;obtain⟨v1,I,h⟩:=qb h;have lC:ae pr (X pr) 34 [Iv O.number]=Ga (.str v1,En):=K4 I;obtain⟨v3,h4,h⟩:=qb h;obtain⟨v5,h6,h⟩:=qb h;obtain⟨d28,K3,h⟩:=qb h;have xP:X pr (.loop G8) ⟨[(1,.aq (aE O),En),(3,.str v5,En),(4,Iv 0,En)],[]⟩=Ga (.exit 0,⟨[(1,.aq (aE O),En),(3,.str d28.1,En),(4,Iv d28.2,En),(17,.bool En,En)],[]⟩):=j7i O K3;obtain⟨d57,h58,h⟩:=qb h;have ZI:X pr (.loop G9) ⟨[(1,.aq (aE O),En),(3,.str d28.1,En),(5,Iv 0,En)],[]⟩=Ga (.exit 2,⟨[(1,.aq (aE O),En),(3,.str d57.1,En),(5,Iv d57.2,En),(32,.bool En,En)],[]⟩):=j7u O h58;have Q:d57.1=r:=Ga.inj h;subst Q
 have this:∃hh,ai pr (X pr) 50 [aE O] []=Ga (.str d57.1,En,hh):=by
  rw[qg (show pr.br 50=Ga ZJ from rfl) (by simp)];simp only[go_sem,seval,ZJ,lC,lA h4,lA h6,xP,ZI];exact⟨_,rfl⟩
 obtain⟨hh,this⟩:=this;exact je rfl this (by first|rfl|simp only[go_sem,seval]) (by first|rfl|simp only[go_sem,seval])
def Am (O:ak aC)(V:aj×Int):Option ((aj×Int)⊕((aj×Int))):=
 cond (decide (V.2<((O.getD []).length:Int)))
  (qa (ql (O.getD []) V.2) fun fG=>
  qa (f50 fG) fun kQ=>
  qa (gA V.1 kQ) fun jY=>
  qa (gA jY ([35]:aj)) fun oj=>
  qa (f25 kQ) fun v40=>
  qa (gA oj v40) fun wy=>
  qa (gA wy ([10]:aj)) fun rm=>
  Ga (.inl (rm,qd .i64 (V.2+1))))
  (Ga (.inr (V.1,V.2)))
def Lb (O:ak aC)(V:aj×Int):bg:=⟨[(0,sl 5 bK O,En),(3,.str V.1,En),(4,Iv V.2,En)],[]⟩
def Qc (O:ak aC)(d:(aj×Int)):q9×bg:=(.exit 0,⟨[(0,sl 5 bK O,En),(3,.str d.1,En),(4,Iv d.2,En),(8,.bool En,En)],[]⟩)
theorem j6e (O:ak aC)(V:aj×Int)(r)(h:Am O V=Ga r):jo pr Lc (Lb O) (Qc O) V r:=by
 unfold Am at h;rcases qc h with⟨fA,h⟩|⟨fA,h⟩
 .obtain⟨fG,oY,h⟩:=qb h;obtain⟨kQ,gW,h⟩:=qb h;have l7:ae pr (X pr) 50 [aE fG]=Ga (.str kQ,En):=W50 gW;obtain⟨jY,wA,h⟩:=qb h;obtain⟨oj,h39,h⟩:=qb h;obtain⟨v40,Ld,h⟩:=qb h;have ZK:ae pr (X pr) 25 [.str kQ]=Ga (.str v40,En):=W25 Ld;obtain⟨wy,ZL,h⟩:=qb h;obtain⟨rm,Qd,h⟩:=qb h;cases h;exact z5 (bH:=⟨[(0,sl 5 bK O,En),(3,.str rm,En),(4,Iv (qd .i64 (V.2+1)),En)],[]⟩) (by simp only[go_sem,seval,Lc,Lb,fA,jn oY,l7,lA wA,lA h39,ZK,lA ZL,lA Qd]<;>rfl) (yg (Gd _))
 .cases h;exact qn (by simp only[go_sem,seval,Lc,Lb,fA,Qc]<;>rfl)
theorem j63 (O:ak aC){V:aj×Int}{d}(h:bd (Am O) V=Ga d):X pr (.loop Lc) (Lb O V)=Ga (Qc O d):=kz (j6e O) (fun d hh=>by cases hh) h
def f14 (O:ak aC):Option aj:=
 qa (bd (Am O) ([],0)) fun d46=>
 Ga d46.1
theorem W14 {O:ak aC}{r}(h:f14 O=Ga r):ae pr (X pr) 14 [sl 5 bK O]=Ga (.str r,En):=by
 unfold f14 at h;refine jz ZM ?_
 repeat' first|(replace h:=qb h;obtain⟨d,g,h⟩:=h;with_reducible first|(replace g:=j63 O g;dsimp only[Lb,Qc,zc]at g h)|skip)|(replace h:=qc h;rcases h with⟨g,h⟩|⟨g,h⟩)
 all_goals (cases h<;>(simp only[go_sem,seval,ZM, *];exact⟨_,rfl⟩))
def tZ (O:aj)(V:Int×Int):Option ((Int×Int)⊕(Unit⊕(Int×Int))):=
 cond (decide (V.2<(O.length:Int)))
  (qa (ql O V.2) fun eE=>
  cond (decide ((eE.toNat:Int)<48))
   (Ga (.inr (.inl ())))
   (cond (decide (57<(eE.toNat:Int)))
    (Ga (.inr (.inl ())))
    (Ga (.inl (qd .i64 ((qd .i64 (10*V.1))+(qd .i64 (qd .u8 ((eE.toNat:Int)-48)))),qd .i64 (V.2+1))))))
  (Ga (.inr (.inr (V.1,V.2))))
def Qe (O:aj)(V:Int×Int):bg:=⟨[(0,.str O,En),(4,Iv V.1,En),(5,Iv V.2,En)],[]⟩
def Qf (O:aj):Unit⊕(Int×Int)->q9×bg
 | .inl d=>(.ret,⟨[(2,Iv 0,En),(3,.bool En,En)],[]⟩)| .inr d=>(.exit 0,⟨[(0,.str O,En),(4,Iv d.1,En),(5,Iv d.2,En),(27,.bool En,En)],[]⟩)
theorem j9p (O:aj)(V:Int×Int)(r)(h:tZ O V=Ga r):jo pr Cu (Qe O) (Qf O) V r:=by
 unfold tZ at h
 repeat' first|(replace h:=qb h;obtain⟨d,g,h⟩:=h)|(replace h:=qc h;rcases h with⟨g,h⟩|⟨g,h⟩)
 all_goals (cases h<;>((first|refine qn ?_|refine jr ?_);simp only[go_sem,seval,Cu,Qe,BL,Qf, *]<;>rfl))
theorem j5a (O:aj){V:Int×Int}{d}(h:bd (tZ O) V=Ga d):X pr (.loop Cu) (Qe O V)=Ga (Qf O d):=kz (j9p O) (fun d=>by rcases d with d|d<;>(intro hh;cases hh)) h
def Le (O:aj)(V:Int×Int):Option ((Int×Int)⊕(Unit⊕(Int×Int))):=
 cond (decide (V.2<(O.length:Int)))
  (qa (ql O V.2) fun v37=>
  cond (decide ((v37.toNat:Int)<48))
   (Ga (.inr (.inl ())))
   (cond (decide (57<(v37.toNat:Int)))
    (Ga (.inr (.inl ())))
    (Ga (.inl (qd .i64 ((qd .i64 (10*V.1))+(qd .i64 (qd .u8 ((v37.toNat:Int)-48)))),qd .i64 (V.2+1))))))
  (Ga (.inr (.inr (V.1,V.2))))
def Qg (O:aj)(V:Int×Int):bg:=⟨[(0,.str O,En),(4,Iv V.1,En),(5,Iv V.2,En)],[]⟩
def Qh (O:aj):Unit⊕(Int×Int)->q9×bg
 | .inl d=>(.ret,⟨[(2,Iv 0,En),(3,.bool En,En)],[]⟩)| .inr d=>(.exit 0,⟨[(0,.str O,En),(4,Iv d.1,En),(5,Iv d.2,En),(27,.bool En,En)],[]⟩)
theorem j07 (O:aj)(V:Int×Int)(r)(h:Le O V=Ga r):jo pr Cu (Qg O) (Qh O) V r:=by
 unfold Le at h
 repeat' first|(replace h:=qb h;obtain⟨d,g,h⟩:=h)|(replace h:=qc h;rcases h with⟨g,h⟩|⟨g,h⟩)
 all_goals (cases h<;>((first|refine qn ?_|refine jr ?_);simp only[go_sem,seval,Cu,Qg,BL,Qh, *]<;>rfl))
theorem j2e (O:aj){V:Int×Int}{d}(h:bd (Le O) V=Ga d):X pr (.loop Cu) (Qg O V)=Ga (Qh O d):=kz (j07 O) (fun d=>by rcases d with d|d<;>(intro hh;cases hh)) h
def f72 (O:aj):Option (Int×Bool):=
 cond (decide ((O.length:Int)=0))
  (Ga (0,En))
  (cond (decide (9<(O.length:Int)))
   (Ga (0,En))
   (cond (decide (1<(O.length:Int)))
    (qa (ql O 0) fun v4=>
    cond (decide ((v4.toNat:Int)=48))
     (Ga (0,En))
     (qa (bd (tZ O) (0,0)) fun d22=>match d22 with
      | .inl d24=>
       Ga (0,En)
      | .inr d25=>
       Ga (d25.1,Ha)))
    (qa (bd (Le O) (0,0)) fun d41=>match d41 with
     | .inl d43=>
      Ga (0,En)
     | .inr d44=>
      Ga (d44.1,Ha))))
theorem W72 {O:aj}{r}(h:f72 O=Ga r):ae pr (X pr) 72 [.str O]=Ga (.aI [Iv r.1,.bool r.2],En):=by
 unfold f72 at h;refine jz ZN ?_
 repeat' first|(replace h:=qb h;obtain⟨d,g,h⟩:=h;with_reducible first|(replace g:=j5a O g;rcases d with d|d<;>dsimp only[Qe,Qf,zc]at g h)|(replace g:=j2e O g;rcases d with d|d<;>dsimp only[Qg,Qh,zc]at g h)|skip)|(replace h:=qc h;rcases h with⟨g,h⟩|⟨g,h⟩)
 all_goals (cases h<;>(simp only[go_sem,seval,ZN,BL, *];exact⟨_,rfl⟩))
def xQ (O:aj)(V:Int):Option (Int⊕(Unit⊕Int)):=
 cond (decide (V<(O.length:Int)))
  (qa (ql O V) fun v12=>
  cond (decide ((v12.toNat:Int)<48))
   (Ga (.inr (.inl ())))
   (cond (decide (57<(v12.toNat:Int)))
    (Ga (.inr (.inl ())))
    (Ga (.inl (qd .i64 (V+1))))))
  (Ga (.inr (.inr V)))
def Qi (O:aj)(V:Int):bg:=⟨[(0,.str O,En),(3,Iv V,En)],[]⟩
def Qj (O:aj):Unit⊕Int->q9×bg
 | .inl d=>(.ret,⟨[(2,.bool En,En)],[]⟩)| .inr d=>(.exit 0,⟨[(0,.str O,En),(3,Iv d,En),(7,.bool En,En)],[]⟩)
theorem j5e (O:aj)(V:Int)(r)(h:xQ O V=Ga r):jo pr Qk (Qi O) (Qj O) V r:=by
 unfold xQ at h
 repeat' first|(replace h:=qb h;obtain⟨d,g,h⟩:=h)|(replace h:=qc h;rcases h with⟨g,h⟩|⟨g,h⟩)
 all_goals (cases h<;>((first|refine qn ?_|refine jr ?_);simp only[go_sem,seval,Qk,Qi,BL,Qj, *]<;>rfl))
theorem j73 (O:aj){V:Int}{d}(h:bd (xQ O) V=Ga d):X pr (.loop Qk) (Qi O V)=Ga (Qj O d):=kz (j5e O) (fun d=>by rcases d with d|d<;>(intro hh;cases hh)) h
def f71 (O:aj):Option Bool:=
 qa (bd (xQ O) 0) fun d16=>match d16 with
  | .inl d18=>
   Ga En
  | .inr d19=>
   Ga (decide ((O.length:Int)=7))
theorem W71 {O:aj}{r}(h:f71 O=Ga r):ae pr (X pr) 71 [.str O]=Ga (.bool r,En):=by
 unfold f71 at h;refine jz ZO ?_
 repeat' first|(replace h:=qb h;obtain⟨d,g,h⟩:=h;with_reducible first|(replace g:=j73 O g;rcases d with d|d<;>dsimp only[Qi,Qj,zc]at g h)|skip)|(replace h:=qc h;rcases h with⟨g,h⟩|⟨g,h⟩)
 all_goals (cases h<;>(simp only[go_sem,seval,ZO, *];exact⟨_,rfl⟩))
end Go.Z
namespace Go.Z
open Go Go.Abs Go.W
def Ao (O:ak Int)(J:ak Int)(V:Int):Option (Int⊕(Unit⊕Int)):=
 cond (decide (V<((O.getD []).length:Int)))
  (qa (ql (O.getD []) V) fun dA=>
  qa (ql (J.getD []) V) fun eF=>
  cond (decide (dA=eF))
   (Ga (.inl (qd .i64 (V+1))))
   (Ga (.inr (.inl ()))))
  (Ga (.inr (.inr V)))
def Ql (O:ak Int)(J:ak Int)(V:Int):bg:=⟨[(0,sl 1 zf O,En),(1,sl 1 zf J,En),(5,Iv V,En)],[]⟩
def Qm (O:ak Int)(J:ak Int):Unit⊕Int->q9×bg
 | .inl d=>(.ret,⟨[(4,.bool En,En)],[]⟩)| .inr d=>(.exit 0,⟨[(0,sl 1 zf O,En),(1,sl 1 zf J,En),(5,Iv d,En),(14,.bool En,En)],[]⟩)
theorem j69 (O:ak Int)(J:ak Int)(V:Int)(r)(h:Ao O J V=Ga r):jo pr Qn (Ql O J) (Qm O J) V r:=by
 unfold Ao at h
 repeat' first|(replace h:=qb h;obtain⟨d,g,h⟩:=h)|(replace h:=qc h;rcases h with⟨g,h⟩|⟨g,h⟩)
 all_goals (cases h<;>((first|refine qn ?_|refine jr ?_);simp only[go_sem,seval,Qn,Ql,ji,Qm, *]<;>rfl))
theorem j96 (O:ak Int)(J:ak Int){V:Int}{d}(h:bd (Ao O J) V=Ga d):X pr (.loop Qn) (Ql O J V)=Ga (Qm O J d):=kz (j69 O J) (fun d=>by rcases d with d|d<;>(intro hh;cases hh)) h
def f44 (O:ak Int)(J:ak Int):Option Bool:=
 cond (decide (((O.getD []).length:Int)=((J.getD []).length:Int)))
  (qa (bd (Ao O J) 0) fun d20=>match d20 with
   | .inl d22=>
    Ga En
   | .inr d23=>
    Ga Ha)
  (Ga En)
theorem W44 {O:ak Int}{J:ak Int}{r}(h:f44 O J=Ga r):ae pr (X pr) 44 [sl 1 zf O,sl 1 zf J]=Ga (.bool r,En):=by
 unfold f44 at h;refine jz ZP ?_
 repeat' first|(replace h:=qb h;obtain⟨d,g,h⟩:=h;with_reducible first|(replace g:=j96 O J g;rcases d with d|d<;>dsimp only[Ql,Qm,zc]at g h)|skip)|(replace h:=qc h;rcases h with⟨g,h⟩|⟨g,h⟩)
 all_goals (cases h<;>(simp only[go_sem,seval,ZP, *];exact⟨_,rfl⟩))
def Ap (O:ak aC)(J:ak aC)(V:Int):Option (Int⊕(Unit⊕Int)):=
 cond (decide (V<((O.getD []).length:Int)))
  (qa (ql (O.getD []) V) fun v31=>
  qa (ql (J.getD []) V) fun l8=>
  cond (decide (v31.number=l8.number))
   (cond (decide (v31.kind=l8.kind))
    (qa (f24 v31.names l8.names) fun v37=>
    cond v37
     (qa (f44 v31.values l8.values) fun v40=>
     cond v40
      (cond (decide (v31.text=l8.text))
       (Ga (.inl (qd .i64 (V+1))))
       (Ga (.inr (.inl ()))))
      (Ga (.inr (.inl ()))))
     (Ga (.inr (.inl ()))))
    (Ga (.inr (.inl ()))))
   (Ga (.inr (.inl ()))))
  (Ga (.inr (.inr V)))
def Qo (O:ak aC)(J:ak aC)(V:Int):bg:=⟨[(0,sl 5 bK O,En),(1,sl 5 bK J,En),(5,Iv V,En)],[]⟩
def Qp (O:ak aC)(J:ak aC):Unit⊕Int->q9×bg
 | .inl d=>(.ret,⟨[(4,.bool En,En)],[]⟩)| .inr d=>(.exit 0,⟨[(0,sl 5 bK O,En),(1,sl 5 bK J,En),(5,Iv d,En),(14,.bool En,En)],[]⟩)
theorem j9t (O:ak aC)(J:ak aC)(V:Int)(r)(h:Ap O J V=Ga r):jo pr Qq (Qo O J) (Qp O J) V r:=by
 unfold Ap at h
 repeat' first|(replace h:=qb h;obtain⟨d,g,h⟩:=h;with_reducible first|replace g:=W24 g|replace g:=W44 g|skip)|(replace h:=qc h;rcases h with⟨g,h⟩|⟨g,h⟩)
 all_goals (cases h<;>((first|refine qn ?_|refine jr ?_);simp only[go_sem,seval,Qq,Qo,ji,Qp, *]<;>rfl))
theorem zaj (O:ak aC)(J:ak aC){V:Int}{d}(h:bd (Ap O J) V=Ga d):X pr (.loop Qq) (Qo O J V)=Ga (Qp O J d):=kz (j9t O J) (fun d=>by rcases d with d|d<;>(intro hh;cases hh)) h
def f11 (O:ak aC)(J:ak aC):Option Bool:=
 cond (decide (((O.getD []).length:Int)=((J.getD []).length:Int)))
  (qa (bd (Ap O J) 0) fun d44=>match d44 with
   | .inl d46=>
    Ga En
   | .inr d47=>
    Ga Ha)
  (Ga En)
theorem W11 {O:ak aC}{J:ak aC}{r}(h:f11 O J=Ga r):ae pr (X pr) 11 [sl 5 bK O,sl 5 bK J]=Ga (.bool r,En):=by
 unfold f11 at h;refine jz ZQ ?_
 repeat' first|(replace h:=qb h;obtain⟨d,g,h⟩:=h;with_reducible first|(replace g:=zaj O J g;rcases d with d|d<;>dsimp only[Qo,Qp,zc]at g h)|skip)|(replace h:=qc h;rcases h with⟨g,h⟩|⟨g,h⟩)
 all_goals (cases h<;>(simp only[go_sem,seval,ZQ, *];exact⟨_,rfl⟩))
end Go.Z
namespace Go.Z
open Go Go.Abs Go.W
def xR (O:aj)(J:Int)(V:(ak aj)×Int×Int×Bool):Option (((ak aj)×Int×Int×Bool)⊕(((ak aj)×Bool×Int×Int))):=
 cond (decide (V.2.2.1<(O.length:Int)))
  (qa (ql O V.2.2.1) fun v20=>
  cond (decide ((v20.toNat:Int)=J))
   (qa (fY O (Ga V.2.1) (Ga V.2.2.1)) fun v23=>
   cond V.2.2.2
    (qa (bB V.1 [v23]) fun v26=>
    Ga (.inl (v26,qd .i64 (V.2.2.1+1),qd .i64 (V.2.2.1+1),Ha)))
    (cond V.1.isNone
     (qa (bB V.1 [v23]) fun dJ=>
     Ga (.inl (dJ,qd .i64 (V.2.2.1+1),qd .i64 (V.2.2.1+1),Ha)))
     (Gb)))
   (Ga (.inl (V.1,V.2.1,qd .i64 (V.2.2.1+1),V.2.2.2))))
  (Ga (.inr (V.1,V.2.2.2,V.2.1,V.2.2.1)))
def He (O:aj)(J:Int)(V:(ak aj)×Int×Int×Bool):bg:=⟨[(0,.str O,En),(1,.int .u8 J,En),(5,sl 1 qx V.1,V.2.2.2),(6,.int .i64 V.2.1,En),(7,.int .i64 V.2.2.1,En)],[]⟩
def ZR (O:aj)(J:Int)(d:((ak aj)×Bool×Int×Int)):q9×bg:=(.exit 0,⟨[(0,.str O,En),(1,.int .u8 J,En),(5,sl 1 qx d.1,d.2.1),(6,.int .i64 d.2.2.1,En),(7,.int .i64 d.2.2.2,En),(11,.bool En,En)],[]⟩)
theorem zah (O:aj)(J:Int)(V:(ak aj)×Int×Int×Bool)(r)(h:xR O J V=Ga r):jo pr Aq (He O J) (ZR O J) V r:=by
 unfold xR at h;rcases qc h with⟨pK,h⟩|⟨pK,h⟩
 .obtain⟨v20,iq,h⟩:=qb h;rcases qc h with⟨gj,h⟩|⟨gj,h⟩
  .obtain⟨v23,lu,h⟩:=qb h;rcases qc h with⟨qO,h⟩|⟨qO,h⟩
   .obtain⟨v26,nC,h⟩:=qb h;cases h;exact z5 (bH:=⟨[(0,.str O,En),(1,.int .u8 J,En),(5,sl 1 qx v26,Ha),(6,.int .i64 (qd .i64 (V.2.2.1+1)),En),(7,.int .i64 (qd .i64 (V.2.2.1+1)),En)],[]⟩) (by simp only[go_sem,seval,Aq,He,pK,yp iq,gj,GQ lu,qO,Pc nC]<;>rfl) (yg (Gd _))
   .rcases qc h with⟨jI,h⟩|⟨jI,h⟩
    .obtain⟨dJ,lB,h⟩:=qb h;cases h;exact z5 (bH:=⟨[(0,.str O,En),(1,.int .u8 J,En),(5,sl 1 qx dJ,Ha),(6,.int .i64 (qd .i64 (V.2.2.1+1)),En),(7,.int .i64 (qd .i64 (V.2.2.1+1)),En)],[]⟩) (by simp only[go_sem,seval,Aq,He,pK,yp iq,gj,GQ lu,qO,jI,XQ lB jI]<;>rfl) (yg (Gd _))
    .cases h
  .cases h;exact z5 (bH:=⟨[(0,.str O,En),(1,.int .u8 J,En),(5,sl 1 qx V.1,V.2.2.2),(6,.int .i64 V.2.1,En),(7,.int .i64 (qd .i64 (V.2.2.1+1)),En)],[]⟩) (by simp only[go_sem,seval,Aq,He,pK,yp iq,gj]<;>rfl) (yg (Gd _))
 .cases h;exact qn (by simp only[go_sem,seval,Aq,He,pK,ZR]<;>rfl)
theorem j84 (O:aj)(J:Int){V:(ak aj)×Int×Int×Bool}{d}(h:bd (xR O J) V=Ga d):X pr (.loop Aq) (He O J V)=Ga (ZR O J d):=kz (zah O J) (fun d hh=>by cases hh) h
def f30 (O:aj)(J:Int):Option (ak aj):=
 qa (bd (xR O J) (Gb,0,0,En)) fun d31=>
 qa (fY O (Ga d31.2.2.1) Gb) fun l8=>
 cond d31.2.1
  (qa (bB d31.1 [l8]) fun jY=>
  Ga jY)
  (cond d31.1.isNone
   (qa (bB d31.1 [l8]) fun l9=>
   Ga l9)
   (Gb))
theorem Qr {O:aj}{J:Int}{r}(h:f30 O J=Ga r):ae pr (X pr) 30 [.str O,.int .u8 J]=Ga (sl 1 qx r,Ha):=by
 unfold f30 at h;obtain⟨d31,rj,h⟩:=qb h;have xS:X pr (.loop Aq) ⟨[(0,.str O,En),(1,.int .u8 J,En),(5,.list Ha 0 [],En),(6,.int .i64 0,En),(7,.int .i64 0,En)],[]⟩=Ga (.exit 0,⟨[(0,.str O,En),(1,.int .u8 J,En),(5,sl 1 qx d31.1,d31.2.1),(6,.int .i64 d31.2.2.1,En),(7,.int .i64 d31.2.2.2,En),(11,.bool En,En)],[]⟩):=j84 O J rj;obtain⟨l8,Cv,h⟩:=qb h;rcases qc h with⟨gW,h⟩|⟨gW,h⟩
 .rw[gW]at xS;obtain⟨jY,wA,h⟩:=qb h;have Q:jY=r:=Ga.inj h;subst Q
  have this:∃hh,ai pr (X pr) 30 [.str O,.int .u8 J] []=Ga (sl 1 qx jY,Ha,hh):=by
   rw[qg (show pr.br 30=Ga Lf from rfl) (by simp)];simp only[go_sem,seval,Lf,xS,y7 Cv,gW,Pc wA];exact⟨_,rfl⟩
  obtain⟨hh,this⟩:=this;exact WK rfl this (by first|rfl|simp only[go_sem,seval]) (by first|rfl|simp only[go_sem,seval]) (by first|rfl|simp only[go_sem,seval])
 .rw[gW]at xS;rcases qc h with⟨rn,h⟩|⟨rn,h⟩
  .obtain⟨l9,Lg,h⟩:=qb h;have Q:l9=r:=Ga.inj h;subst Q
   have this:∃hh,ai pr (X pr) 30 [.str O,.int .u8 J] []=Ga (sl 1 qx l9,Ha,hh):=by
    rw[qg (show pr.br 30=Ga Lf from rfl) (by simp)];simp only[go_sem,seval,Lf,xS,y7 Cv,gW,rn,XQ Lg rn];exact⟨_,rfl⟩
   obtain⟨hh,this⟩:=this;exact WK rfl this (by first|rfl|simp only[go_sem,seval]) (by first|rfl|simp only[go_sem,seval]) (by first|rfl|simp only[go_sem,seval])
  .cases h
end Go.Z
namespace Go.Z
open Go Go.Abs Go.W
def ua (v1:ak aj)(v3:aj)(v5:n9)(V:Int×(ak aj)×(ak Int)×Bool×Bool):Option ((Int×(ak aj)×(ak Int)×Bool×Bool)⊕(((ak aj)×Bool×(ak Int)×Bool)⊕(Int×(ak aj)×Bool×(ak Int)×Bool))):=
 cond (decide (V.1<(qd .i64 ((qd .i64 (1+v5.names))+v5.values))))
  (qa (ql (v1.getD []) V.1) fun oj=>
  cond (decide (oj=[]))
   (Ga (.inr (.inl (V.2.1,V.2.2.2.1,V.2.2.1,V.2.2.2.2))))
   (cond (decide (V.1<=v5.names))
    (cond V.2.2.2.1
     (qa (bB V.2.1 [oj]) fun Cw=>
     Ga (.inl (qd .i64 (V.1+1),Cw,V.2.2.1,Ha,V.2.2.2.2)))
     (cond V.2.1.isNone
      (qa (bB V.2.1 [oj]) fun v46=>
      Ga (.inl (qd .i64 (V.1+1),v46,V.2.2.1,Ha,V.2.2.2.2)))
      (Gb)))
    (qa (f72 oj) fun Cx=>
    cond Cx.2
     (cond V.2.2.2.2
      (qa (bB V.2.2.1 [Cx.1]) fun ZS=>
      Ga (.inl (qd .i64 (V.1+1),V.2.1,ZS,V.2.2.2.1,Ha)))
      (cond V.2.2.1.isNone
       (qa (bB V.2.2.1 [Cx.1]) fun K9=>
       Ga (.inl (qd .i64 (V.1+1),V.2.1,K9,V.2.2.2.1,Ha)))
       (Gb)))
     (Ga (.inr (.inl (V.2.1,V.2.2.2.1,V.2.2.1,V.2.2.2.2)))))))
  (Ga (.inr (.inr (V.1,V.2.1,V.2.2.2.1,V.2.2.1,V.2.2.2.2))))
def Qt (v1:ak aj)(v3:aj)(v5:n9)(V:Int×(ak aj)×(ak Int)×Bool×Bool):bg:=⟨[(2,.ptr 0 0,En),(4,sl 1 qx v1,Ha),(5,.aq (.agg [Iv v5.names,Iv v5.values,.bool Ha]),En),(6,Iv (qd .i64 ((qd .i64 (1+v5.names))+v5.values)),En),(7,.ptr 1 0,En),(8,Iv V.1,En)],[.cells [(Iv 0,En),(.str [],En),(Nl,En),(Nl,En),(.str [],En)],.cells [(Iv 0,En),(.str v3,En),(sl 1 qx V.2.1,V.2.2.2.1),(sl 1 zf V.2.2.1,V.2.2.2.2),(.str [],En)]]⟩
def Qu (v1:ak aj)(v3:aj)(v5:n9):((ak aj)×Bool×(ak Int)×Bool)⊕(Int×(ak aj)×Bool×(ak Int)×Bool)->q9×bg
 | .inl d=>(.ret,⟨[(2,.ptr 0 0,En),(3,.bool En,En)],[.cells [(Iv 0,En),(.str [],En),(Nl,En),(Nl,En),(.str [],En)],.cells [(Iv 0,En),(.str v3,En),(sl 1 qx d.1,d.2.1),(sl 1 zf d.2.2.1,d.2.2.2),(.str [],En)]]⟩)| .inr d=>(.exit 0,⟨[(2,.ptr 0 0,En),(4,sl 1 qx v1,Ha),(5,.aq (.agg [Iv v5.names,Iv v5.values,.bool Ha]),En),(6,Iv (qd .i64 ((qd .i64 (1+v5.names))+v5.values)),En),(7,.ptr 1 0,En),(8,Iv d.1,En),(39,.bool En,En)],[.cells [(Iv 0,En),(.str [],En),(Nl,En),(Nl,En),(.str [],En)],.cells [(Iv 0,En),(.str v3,En),(sl 1 qx d.2.1,d.2.2.1),(sl 1 zf d.2.2.2.1,d.2.2.2.2),(.str [],En)]]⟩)
theorem j8q (v1:ak aj)(v3:aj)(v5:n9)(V:Int×(ak aj)×(ak Int)×Bool×Bool)(r)(h:ua v1 v3 v5 V=Ga r):jo pr Qv (Qt v1 v3 v5) (Qu v1 v3 v5) V r:=by
 unfold ua at h
 repeat' first|(replace h:=qb h;obtain⟨d,g,h⟩:=h;with_reducible first|replace g:=W72 g|replace g:=tI g|replace g:=WM g|skip)|(replace h:=qc h;rcases h with⟨g,h⟩|⟨g,h⟩)
 all_goals (cases h<;>((first|refine qn ?_|refine jr ?_);simp only[go_sem,seval,Qv,Qt,ji,Qu, *]<;>rfl))
theorem j51 (v1:ak aj)(v3:aj)(v5:n9){V:Int×(ak aj)×(ak Int)×Bool×Bool}{d}(h:bd (ua v1 v3 v5) V=Ga d):X pr (.loop Qv) (Qt v1 v3 v5 V)=Ga (Qu v1 v3 v5 d):=kz (j8q v1 v3 v5) (fun d=>by rcases d with d|d<;>(intro hh;cases hh)) h
def f32 (O:aj):Option (aC×Bool):=
 qa (f30 O 32) fun v1=>
 qa (ql (v1.getD []) 0) fun v3=>
 qa (f75 v3) fun v5=>
 cond v5.known
  (cond (decide (((v1.getD []).length:Int)=(qd .i64 ((qd .i64 (1+v5.names))+v5.values))))
   (qa (bd (ua v1 v3 v5) (1,Gb,Gb,En,En)) fun d57=>match d57 with
    | .inl d59=>
     Ga (⟨0,[],Gb,Gb,[]⟩,En)
    | .inr d60=>
     Ga (⟨0,v3,d60.2.1,d60.2.2.2.1,[]⟩,Ha))
   (Ga (⟨0,[],Gb,Gb,[]⟩,En)))
  (Ga (⟨0,[],Gb,Gb,[]⟩,En))
theorem W32 {O:aj}{r}(h:f32 O=Ga r):ae pr (X pr) 32 [.str O]=Ga (.aI [aE r.1,.bool r.2],En):=by
 unfold f32 at h;refine jz ZT ?_
 repeat' first|(replace h:=qb h;obtain⟨d,g,h⟩:=h;with_reducible first|replace g:=Qr g|replace g:=ZU g|(replace g:=j51 _ _ _ g;rcases d with d|d<;>dsimp only[Qt,Qu,zc]at g h)|skip)|(replace h:=qc h;rcases h with⟨g,h⟩|⟨g,h⟩)
 all_goals (cases h<;>(simp only[go_sem,seval,ZT,ji, *];exact⟨_,rfl⟩))
def f26 (O:aj):Option (aC×Int):=
 cond (decide ((qd .i64 ((O.length:Int)-8))<0))
  (Ga (⟨0,[],Gb,Gb,[]⟩,26))
  (qa (ql O (qd .i64 ((O.length:Int)-8))) fun v2=>
  cond (decide ((v2.toNat:Int)=35))
   (qa (fY O (Ga (qd .i64 ((qd .i64 ((O.length:Int)-8))+1))) Gb) fun v5=>
   qa (f71 v5) fun v7=>
   cond v7
    (qa (fY O Gb (Ga (qd .i64 ((O.length:Int)-8)))) fun v10=>
    qa (f25 v10) fun v12=>
    cond (decide (v5=v12))
     (qa (f30 v10 32) fun dA=>
     qa (ql (dA.getD []) 0) fun eF=>
     qa (f72 eF) fun ey=>
     cond ey.2
      (cond (decide (((dA.getD []).length:Int)<2))
       (Ga (⟨0,[],Gb,Gb,[]⟩,26))
       (qa (fY v10 (Ga (qd .i64 ((eF.length:Int)+1))) Gb) fun v23=>
       qa (f32 v23) fun v25=>
       cond v25.2
        (qa (f73 (⟨ey.1,v25.1.kind,v25.1.names,v25.1.values,v25.1.text⟩)) fun v28=>
        cond (decide (v28=0))
         (Ga (⟨ey.1,v25.1.kind,v25.1.names,v25.1.values,v25.1.text⟩,0))
         (Ga (⟨0,[],Gb,Gb,[]⟩,26)))
        (Ga (⟨0,[],Gb,Gb,[]⟩,26))))
      (Ga (⟨0,[],Gb,Gb,[]⟩,26)))
     (Ga (⟨0,[],Gb,Gb,[]⟩,28)))
    (Ga (⟨0,[],Gb,Gb,[]⟩,26)))
   (Ga (⟨0,[],Gb,Gb,[]⟩,26)))
theorem W26 {O:aj}{r}(h:f26 O=Ga r):ae pr (X pr) 26 [.str O]=Ga (.aI [aE r.1,Iv r.2],En):=by
 unfold f26 at h;rcases qc h with⟨Y,h⟩|⟨Y,h⟩
 .have Q:(⟨0,[],Gb,Gb,[]⟩,26)=r:=Ga.inj h;subst Q
  have this:∃hh,ai pr (X pr) 26 [.str O] []=Ga (.aI [.agg [Iv 0,.str [],Nl,Nl,.str []],Iv 26],En,hh):=by
   rw[qg (show pr.br 26=Ga mb from rfl) (by simp)];simp only[go_sem,seval,mb,Y];exact⟨_,rfl⟩
  obtain⟨hh,this⟩:=this;exact je rfl this (by first|rfl|simp only[go_sem,seval]) (by first|rfl|simp only[go_sem,seval])
 .obtain⟨v2,h3,h⟩:=qb h;rcases qc h with⟨h4,h⟩|⟨h4,h⟩
  .obtain⟨v5,h6,h⟩:=qb h;obtain⟨v7,h8,h⟩:=qb h;have ol:ae pr (X pr) 71 [.str v5]=Ga (.bool v7,En):=W71 h8;rcases qc h with⟨h9,h⟩|⟨h9,h⟩
   .obtain⟨v10,ei,h⟩:=qb h;obtain⟨v12,fX,h⟩:=qb h;have fB:ae pr (X pr) 25 [.str v10]=Ga (.str v12,En):=W25 fX;rcases qc h with⟨fF,h⟩|⟨fF,h⟩
    .obtain⟨dA,jQ,h⟩:=qb h;have iZ:ae pr (X pr) 30 [.str v10,.int .u8 32]=Ga (sl 1 qx dA,Ha):=Qr jQ;obtain⟨eF,l6,h⟩:=qb h;obtain⟨ey,nx,h⟩:=qb h;have fN:ae pr (X pr) 72 [.str eF]=Ga (.aI [Iv ey.1,.bool ey.2],En):=W72 nx;rcases qc h with⟨iq,h⟩|⟨iq,h⟩
     .rw[iq]at fN;rcases qc h with⟨gj,h⟩|⟨gj,h⟩
      .have Q:(⟨0,[],Gb,Gb,[]⟩,26)=r:=Ga.inj h;subst Q
       have this:∃hh,ai pr (X pr) 26 [.str O] []=Ga (.aI [.agg [Iv 0,.str [],Nl,Nl,.str []],Iv 26],En,hh):=by
        rw[qg (show pr.br 26=Ga mb from rfl) (by simp)];simp only[go_sem,seval,mb,Y,yp h3,h4,y7 h6,ol,h9,wh ei,fB,fF,iZ,jn l6,fN,iq,gj];exact⟨_,rfl⟩
       obtain⟨hh,this⟩:=this;exact je rfl this (by first|rfl|simp only[go_sem,seval]) (by first|rfl|simp only[go_sem,seval])
      .obtain⟨v23,lu,h⟩:=qb h;obtain⟨v25,mP,h⟩:=qb h;have mc:ae pr (X pr) 32 [.str v23]=Ga (.aI [aE v25.1,.bool v25.2],En):=W32 mP;rcases qc h with⟨nC,h⟩|⟨nC,h⟩
       .rw[nC]at mc;obtain⟨v28,K3,h⟩:=qb h;have xP:ae pr (X pr) 73 [.agg [Iv ey.1,.str v25.1.kind,sl 1 qx v25.1.names,sl 1 zf v25.1.values,.str v25.1.text]]=Ga (Iv v28,En):=ZV K3;rcases qc h with⟨lB,h⟩|⟨lB,h⟩
        .have Q:(⟨ey.1,v25.1.kind,v25.1.names,v25.1.values,v25.1.text⟩,0)=r:=Ga.inj h;subst Q
         have this:∃hh,ai pr (X pr) 26 [.str O] []=Ga (.aI [.agg [Iv ey.1,.str v25.1.kind,sl 1 qx v25.1.names,sl 1 zf v25.1.values,.str v25.1.text],Iv 0],En,hh):=by
          rw[qg (show pr.br 26=Ga mb from rfl) (by simp)];simp only[go_sem,seval,mb,Y,yp h3,h4,y7 h6,ol,h9,wh ei,fB,fF,iZ,jn l6,fN,iq,gj,y7 lu,mc,nC,xP,lB];exact⟨_,rfl⟩
         obtain⟨hh,this⟩:=this;exact je rfl this (by first|rfl|simp only[go_sem,seval]) (by first|rfl|simp only[go_sem,seval])
        .have Q:(⟨0,[],Gb,Gb,[]⟩,26)=r:=Ga.inj h;subst Q
         have this:∃hh,ai pr (X pr) 26 [.str O] []=Ga (.aI [.agg [Iv 0,.str [],Nl,Nl,.str []],Iv 26],En,hh):=by
          rw[qg (show pr.br 26=Ga mb from rfl) (by simp)];simp only[go_sem,seval,mb,Y,yp h3,h4,y7 h6,ol,h9,wh ei,fB,fF,iZ,jn l6,fN,iq,gj,y7 lu,mc,nC,xP,lB];exact⟨_,rfl⟩
         obtain⟨hh,this⟩:=this;exact je rfl this (by first|rfl|simp only[go_sem,seval]) (by first|rfl|simp only[go_sem,seval])
       .rw[nC]at mc;have Q:(⟨0,[],Gb,Gb,[]⟩,26)=r:=Ga.inj h;subst Q
        have this:∃hh,ai pr (X pr) 26 [.str O] []=Ga (.aI [.agg [Iv 0,.str [],Nl,Nl,.str []],Iv 26],En,hh):=by
         rw[qg (show pr.br 26=Ga mb from rfl) (by simp)];simp only[go_sem,seval,mb,Y,yp h3,h4,y7 h6,ol,h9,wh ei,fB,fF,iZ,jn l6,fN,iq,gj,y7 lu,mc,nC];exact⟨_,rfl⟩
        obtain⟨hh,this⟩:=this;exact je rfl this (by first|rfl|simp only[go_sem,seval]) (by first|rfl|simp only[go_sem,seval])
     .rw[iq]at fN;have Q:(⟨0,[],Gb,Gb,[]⟩,26)=r:=Ga.inj h;subst Q
      have this:∃hh,ai pr (X pr) 26 [.str O] []=Ga (.aI [.agg [Iv 0,.str [],Nl,Nl,.str []],Iv 26],En,hh):=by
       rw[qg (show pr.br 26=Ga mb from rfl) (by simp)];simp only[go_sem,seval,mb,Y,yp h3,h4,y7 h6,ol,h9,wh ei,fB,fF,iZ,jn l6,fN,iq];exact⟨_,rfl⟩
      obtain⟨hh,this⟩:=this;exact je rfl this (by first|rfl|simp only[go_sem,seval]) (by first|rfl|simp only[go_sem,seval])
    .have Q:(⟨0,[],Gb,Gb,[]⟩,28)=r:=Ga.inj h;subst Q
     have this:∃hh,ai pr (X pr) 26 [.str O] []=Ga (.aI [.agg [Iv 0,.str [],Nl,Nl,.str []],Iv 28],En,hh):=by
      rw[qg (show pr.br 26=Ga mb from rfl) (by simp)];simp only[go_sem,seval,mb,Y,yp h3,h4,y7 h6,ol,h9,wh ei,fB,fF];exact⟨_,rfl⟩
     obtain⟨hh,this⟩:=this;exact je rfl this (by first|rfl|simp only[go_sem,seval]) (by first|rfl|simp only[go_sem,seval])
   .have Q:(⟨0,[],Gb,Gb,[]⟩,26)=r:=Ga.inj h;subst Q
    have this:∃hh,ai pr (X pr) 26 [.str O] []=Ga (.aI [.agg [Iv 0,.str [],Nl,Nl,.str []],Iv 26],En,hh):=by
     rw[qg (show pr.br 26=Ga mb from rfl) (by simp)];simp only[go_sem,seval,mb,Y,yp h3,h4,y7 h6,ol,h9];exact⟨_,rfl⟩
    obtain⟨hh,this⟩:=this;exact je rfl this (by first|rfl|simp only[go_sem,seval]) (by first|rfl|simp only[go_sem,seval])
  .have Q:(⟨0,[],Gb,Gb,[]⟩,26)=r:=Ga.inj h;subst Q
   have this:∃hh,ai pr (X pr) 26 [.str O] []=Ga (.aI [.agg [Iv 0,.str [],Nl,Nl,.str []],Iv 26],En,hh):=by
    rw[qg (show pr.br 26=Ga mb from rfl) (by simp)];simp only[go_sem,seval,mb,Y,yp h3,h4];exact⟨_,rfl⟩
   obtain⟨hh,this⟩:=this;exact je rfl this (by first|rfl|simp only[go_sem,seval]) (by first|rfl|simp only[go_sem,seval])
def ub (O:aj)(V:(ak aC)×Int×Int×Bool):Option (((ak aC)×Int×Int×Bool)⊕(((ak aC)×Bool×Int×Int)⊕((ak aC)×Bool×Int×Int))):=
 cond (decide (V.2.2.1<(O.length:Int)))
  (qa (ql O V.2.2.1) fun dJ=>
  cond (decide ((dJ.toNat:Int)=10))
   (qa (fY O (Ga V.2.1) (Ga V.2.2.1)) fun fG=>
   qa (f26 fG) fun kQ=>
   cond (decide (kQ.2=0))
    (cond (decide (kQ.1.number=(qd .i64 (((V.1.getD []).length:Int)+1))))
     (cond V.2.2.2
      (qa (bB V.1 [kQ.1]) fun l9=>
      Ga (.inl (l9,qd .i64 (V.2.2.1+1),qd .i64 (V.2.2.1+1),Ha)))
      (cond V.1.isNone
       (qa (bB V.1 [kQ.1]) fun wy=>
       Ga (.inl (wy,qd .i64 (V.2.2.1+1),qd .i64 (V.2.2.1+1),Ha)))
       (Gb)))
     (Ga (.inr (.inl (V.1,V.2.2.2,V.2.1,11)))))
    (Ga (.inr (.inl (V.1,V.2.2.2,V.2.1,kQ.2)))))
   (Ga (.inl (V.1,V.2.1,qd .i64 (V.2.2.1+1),V.2.2.2))))
  (Ga (.inr (.inr (V.1,V.2.2.2,V.2.1,V.2.2.1))))
def xT (O:aj)(V:(ak aC)×Int×Int×Bool):bg:=⟨[(0,.str O,En),(5,sl 5 bK V.1,V.2.2.2),(6,Iv V.2.1,En),(7,Iv V.2.2.1,En)],[]⟩
def Hf (O:aj):((ak aC)×Bool×Int×Int)⊕((ak aC)×Bool×Int×Int)->q9×bg
 | .inl d=>(.ret,⟨[(2,sl 5 bK d.1,d.2.1),(3,Iv d.2.2.1,En),(4,Iv d.2.2.2,En)],[]⟩)| .inr d=>(.exit 0,⟨[(0,.str O,En),(5,sl 5 bK d.1,d.2.1),(6,Iv d.2.2.1,En),(7,Iv d.2.2.2,En),(16,.bool En,En)],[]⟩)
theorem zfj (O:aj)(V:(ak aC)×Int×Int×Bool)(r)(h:ub O V=Ga r):jo pr xU (xT O) (Hf O) V r:=by
 unfold ub at h;rcases qc h with⟨jI,h⟩|⟨jI,h⟩
 .obtain⟨dJ,lB,h⟩:=qb h;rcases qc h with⟨fA,h⟩|⟨fA,h⟩
  .obtain⟨fG,oY,h⟩:=qb h;obtain⟨kQ,gW,h⟩:=qb h;have l7:ae pr (X pr) 26 [.str fG]=Ga (.aI [aE kQ.1,Iv kQ.2],En):=W26 gW;rcases qc h with⟨uc,h⟩|⟨uc,h⟩
   .rcases qc h with⟨wA,h⟩|⟨wA,h⟩
    .rcases qc h with⟨rn,h⟩|⟨rn,h⟩
     .obtain⟨l9,Lg,h⟩:=qb h;cases h;exact z5 (bH:=⟨[(0,.str O,En),(5,sl 5 bK l9,Ha),(6,Iv (qd .i64 (V.2.2.1+1)),En),(7,Iv (qd .i64 (V.2.2.1+1)),En)],[]⟩) (by simp only[go_sem,seval,xU,xT,jI,yp lB,fA,GQ oY,l7,uc,wA,rn,J3 Lg]<;>rfl) (yg (Gd _))
     .rcases qc h with⟨Ld,h⟩|⟨Ld,h⟩
      .obtain⟨wy,ZL,h⟩:=qb h;cases h;exact z5 (bH:=⟨[(0,.str O,En),(5,sl 5 bK wy,Ha),(6,Iv (qd .i64 (V.2.2.1+1)),En),(7,Iv (qd .i64 (V.2.2.1+1)),En)],[]⟩) (by simp only[go_sem,seval,xU,xT,jI,yp lB,fA,GQ oY,l7,uc,wA,rn,Ld,Pa ZL Ld]<;>rfl) (yg (Gd _))
      .cases h
    .cases h;exact qn (by simp only[go_sem,seval,xU,xT,jI,yp lB,fA,GQ oY,l7,uc,wA,Hf]<;>rfl)
   .cases h;exact qn (by simp only[go_sem,seval,xU,xT,jI,yp lB,fA,GQ oY,l7,uc,Hf]<;>rfl)
  .cases h;exact z5 (bH:=⟨[(0,.str O,En),(5,sl 5 bK V.1,V.2.2.2),(6,Iv V.2.1,En),(7,Iv (qd .i64 (V.2.2.1+1)),En)],[]⟩) (by simp only[go_sem,seval,xU,xT,jI,yp lB,fA]<;>rfl) (yg (Gd _))
 .cases h;exact qn (by simp only[go_sem,seval,xU,xT,jI,Hf]<;>rfl)
theorem zes (O:aj){V:(ak aC)×Int×Int×Bool}{d}(h:bd (ub O) V=Ga d):X pr (.loop xU) (xT O V)=Ga (Hf O d):=kz (zfj O) (fun d=>by rcases d with d|d<;>(intro hh;cases hh)) h
def f6 (O:aj):Option ((ak aC)×Int×Int):=
 cond (decide (1000000<(O.length:Int)))
  (Ga (Gb,0,27))
  (qa (bd (ub O) (Gb,0,0,En)) fun d44=>match d44 with
   | .inl d46=>
    Ga (d46.1,d46.2.2.1,d46.2.2.2)
   | .inr d47=>
    cond (decide (d47.2.2.1<(O.length:Int)))
     (Ga (d47.1,d47.2.2.1,29))
     (Ga (d47.1,d47.2.2.1,0)))
theorem W6 {O:aj}{r}(h:f6 O=Ga r):ae pr (X pr) 6 [.str O]=Ga (.aI [sl 5 bK r.1,.int .i64 r.2.1,.int .i64 r.2.2],En):=by
 unfold f6 at h;refine jz c6 ?_
 repeat' first|(replace h:=qb h;obtain⟨d,g,h⟩:=h;with_reducible first|(replace g:=zes O g;rcases d with d|d<;>dsimp only[xT,Hf,zc]at g h)|skip)|(replace h:=qc h;rcases h with⟨g,h⟩|⟨g,h⟩)
 all_goals (cases h<;>(simp only[go_sem,seval,c6, *];exact⟨_,rfl⟩))
end Go.Z
namespace Go.Z
open Go Go.Abs Go.Proofs
def Qw:AO:=fun k=>bif Nat.beq k 5 then Ga T1 else KM k
def aB:j8:={ br:=pr.br,cD:=Qw,cH:=XV,maps:=KN }
theorem aH:gO pr aB where
 maps:=fun k es h=>h
 br:=fun k b hb=>.inl hb
 cH:=by intro k F hn hF;cases hF
 cD:=by
  intro k
  cases hk:Qw k with
  |none=>exact .inr ⟨hk,rfl⟩
  |some t=>
   refine .inl ⟨t,hk,fun args r h=>?_⟩
   have hn:pr.br k=Gb:=jjw (by
    cases G:isS k with
    |true=>rfl
    |false=>
     simp only[isS,Bool.or_eq_false_iff]at G;obtain⟨⟨⟨⟨⟨Y,I⟩,h3⟩,h4⟩,h5⟩,h6⟩:=G;simp only[Qw,KM,Y,I,h3,h4,h5,h6,cond_false]at hk
     cases hk)
   unfold ae ai at h;rw[hn]at h;cases h
theorem okS:b8 Tryz.prog aB where
 fn:=tV.fn
 gd:=by
  intro k f hf;simp only[aB,Qw,Bool.cond_eq_ite]at hf;split at hf
  .next hb=>obtain rfl:=Nat.eq_of_beq_eq_true hb;exact okZ.gd 5 f hf
  .exact dU.gd k f hf
 mixed:=tV.mixed
 fa:=dU.fa
 maps:=tV.maps
theorem Cy {k f args v}(hp:aB.cD k=Ga f)(h:f args=Ga (v,En))(hv:mC v=Ha):ae aB (X aB) k args=Ga (v,En):=by
 unfold ae;rw[hp];simp only[h,hv,cond_true]
def f256 (s:aj):Int->Option Int
 | .ofNat n=>Ga (GU (UInt8.ofNat n) s 0)|_=>Gb
theorem zew {s:aj}{c r:Int}(h:f256 s c=Ga r):ae aB (X aB) 256 [.str s,.int .u8 c]=Ga (.int .i64 r,En):=by
 cases c with
 |ofNat n=>cases h;exact Cy (f:=PF) rfl rfl rfl|negSucc n=>cases h
theorem q5d:∀ (l:List aj),qp 0 (l.map .str)=Ha
 | []=>rfl
 |x::l=>by simp only[List.map_cons,qp,below,q5d l,If]
def f19 (s:aj):aj->Option (ak aj)
 | [c]=>bif Hc s.length 4294967281 then Ga (Ga (ej c s))else Gb|_=>Gb
theorem Cz {s p:aj}{r}(h:f19 s p=Ga r):ae aB (X aB) 19 [.str s,.str p]=Ga (sl 1 qx r,En):=by
 cases p with
 |nil=>cases h
 |cons c t=>
  cases t with
  |cons _ _=>cases h
  |nil=>
   simp only[f19]at h
   cases hb:Hc s.length 4294967281 with
   |false=>rw[hb]at h;cases h
   |true=>
    rw[hb]at h;cases h;exact Cy (f:=KK) rfl (by simp only[KK,hb,cond_true];rfl) (by show qp 0 ((ej c s).map .str)=Ha;exact q5d _)
theorem q1n:∀ (l:List aj),GX (l.map .str)=Ga l
 | []=>rfl
 |x::l=>by simp only[List.map_cons,GX,q1n l]
def f47:ak aj->aj->Option aj
 |none,_=>Ga []|some (s::ss),p=>bif Hb (s::ss).length 100000&&Hb (p.intercalate (s::ss)).length 100000000 then Ga (p.intercalate (s::ss))else Gb|some [],_=>Gb
theorem Hg {l:ak aj}{p:aj}{r}(h:f47 l p=Ga r):ae aB (X aB) 47 [sl 1 qx l,.str p]=Ga (.str r,En):=by
 cases l with
 |none=>cases h;exact Cy (f:=t99) rfl rfl rfl
 |some l=>
  cases l with
  |nil=>cases h
  |cons s ss=>
   simp only[f47]at h
   cases hb:(Hb (s::ss).length 100000&&Hb (p.intercalate (s::ss)).length 100000000)with
   |false=>rw[hb]at h;cases h
   |true=>
    rw[hb]at h;cases h;refine Cy (f:=t99) rfl ?_ rfl;show t99 [.list En 1 ((s::ss).map .str),.str p]=_;simp only[t99,q1n,hb,cond_true]
def f43:Int->Option aj
 | .ofNat n=>bif Hc n 1000000000000000000 then Ga (GV 18 n [])else Gb|_=>Gb
theorem Lh {n:Int}{r}(h:f43 n=Ga r):ae aB (X aB) 43 [.int .i64 n]=Ga (.str r,En):=by
 cases n with
 |negSucc n=>cases h
 |ofNat n=>
  simp only[f43]at h
  cases hb:Hc n 1000000000000000000 with
  |false=>rw[hb]at h;cases h|true=>rw[hb]at h;cases h;exact Cy (f:=Ah) rfl (by simp only[Ah,hb,cond_true]) rfl
theorem zfw (hp:qh){n:Int}{r}(h:f43 n=Ga r):ai aB (X aB) 43 [.int .i64 n] hp=Ga (.str r,En,hp):=by
 have hn:pr.br 43=Gb:=jjw (k:=43) rfl;have kH:aB.br 43=Gb:=hn;unfold ai;rw[kH,show aB.cH 43=Ga GY from rfl]
 cases n with
 |negSucc n=>cases h
 |ofNat n=>
  simp only[f43]at h
  cases hb:Hc n 1000000000000000000 with
  |false=>rw[hb]at h;cases h|true=>rw[hb]at h;cases h;show GY _ _=_;simp only[GY,Ah,hb,cond_true,qp,below,If]
def f211 (s:aj):Int->Option aj
 | .ofNat c=>bif Hb c 100000&&Hb (s.length*c) 100000 then Ga (Lib.repeatL s c)else Gb|_=>Gb
theorem zgi {s:aj}{c:Int}{r}(h:f211 s c=Ga r):ae aB (X aB) 211 [.str s,.int .i64 c]=Ga (.str r,En):=by
 cases c with
 |negSucc n=>cases h
 |ofNat c=>
  simp only[f211]at h
  cases hb:(Hb c 100000&&Hb (s.length*c) 100000)with
  |false=>rw[hb]at h;cases h|true=>rw[hb]at h;cases h;exact Cy (f:=KL) rfl (by simp only[KL,hb,cond_true]) rfl
theorem W5 {r}(h:E5=Ga r):ae aB (X aB) 5 []=Ga (.bool r,En):=by
 cases h;exact Cy (f:=T1) rfl rfl rfl
end Go.Z
namespace Go.Z
open Go Go.Abs Go.W
def f212 (O:aj)(J:aj):Option Int:=
 cond (decide ((J.length:Int)=0))
  (Ga 0)
  (cond (decide (J=O))
   (Ga 0)
   (cond (decide ((J.length:Int)=1))
    (qa (ql J 0) fun v4=>
    qa (f256 O (v4.toNat:Int)) fun v6=>
    Ga v6)
    (cond (decide ((O.length:Int)<=(J.length:Int)))
     (Ga (-1))
     (Gb))))
theorem zju {O:aj}{J:aj}{r}(h:f212 O J=Ga r):ae aB (X aB) 212 [.str O,.str J]=Ga (Iv r,En):=by
 unfold f212 at h;refine jz CA ?_
 repeat' first|(replace h:=qb h;obtain⟨d,g,h⟩:=h;with_reducible first|replace g:=zew g|skip)|(replace h:=qc h;rcases h with⟨g,h⟩|⟨g,h⟩)
 all_goals (cases h<;>(simp only[go_sem,seval,CA,BL, *];exact⟨_,rfl⟩))
def f137 (O:aj)(J:aj):Option (aj×aj×Bool):=
 qa (f212 O J) fun v1=>
 cond (decide (0<=v1))
  (qa (fY O Gb (Ga v1)) fun v4=>
  qa (fY O (Ga (qd .i64 (v1+(J.length:Int)))) Gb) fun v6=>
  Ga (v4,v6,Ha))
  (Ga (O,[],En))
theorem zh8 {O:aj}{J:aj}{r}(h:f137 O J=Ga r):ae aB (X aB) 137 [.str O,.str J]=Ga (.aI [.str r.1,.str r.2.1,.bool r.2.2],En):=by
 unfold f137 at h;obtain⟨v1,I,h⟩:=qb h;have lC:ae aB (X aB) 212 [.str O,.str J]=Ga (Iv v1,En):=zju I;rcases qc h with⟨h3,h⟩|⟨h3,h⟩
 .obtain⟨v4,h5,h⟩:=qb h;obtain⟨v6,h7,h⟩:=qb h;have Q:(v4,v6,Ha)=r:=Ga.inj h;subst Q
  have this:∃hh,ai aB (X aB) 137 [.str O,.str J] []=Ga (.aI [.str v4,.str v6,.bool Ha],En,hh):=by
   rw[qg (show aB.br 137=Ga ud from rfl) (by simp)];simp only[go_sem,seval,ud,lC,h3,wh h5,y7 h7];exact⟨_,rfl⟩
  obtain⟨hh,this⟩:=this;exact je rfl this (by first|rfl|simp only[go_sem,seval]) (by first|rfl|simp only[go_sem,seval])
 .have Q:(O,[],En)=r:=Ga.inj h;subst Q
  have this:∃hh,ai aB (X aB) 137 [.str O,.str J] []=Ga (.aI [.str O,.str [],.bool En],En,hh):=by
   rw[qg (show aB.br 137=Ga ud from rfl) (by simp)];simp only[go_sem,seval,ud,lC,h3];exact⟨_,rfl⟩
  obtain⟨hh,this⟩:=this;exact je rfl this (by first|rfl|simp only[go_sem,seval]) (by first|rfl|simp only[go_sem,seval])
def f52 (O:aj)(J:aj):Option (aj×aj×Bool):=
 qa (f137 O J) fun v1=>
 Ga (v1.1,v1.2.1,v1.2.2)
theorem W52 {O:aj}{J:aj}{r}(h:f52 O J=Ga r):ae aB (X aB) 52 [.str O,.str J]=Ga (.aI [.str r.1,.str r.2.1,.bool r.2.2],En):=by
 unfold f52 at h;refine jz ZW ?_
 repeat' first|(replace h:=qb h;obtain⟨d,g,h⟩:=h;with_reducible first|replace g:=zh8 g|skip)|(replace h:=qc h;rcases h with⟨g,h⟩|⟨g,h⟩)
 all_goals (cases h<;>(simp only[go_sem,seval,ZW, *];exact⟨_,rfl⟩))
def CC (O:aj)(V:Int×Int):Option ((Int×Int)⊕((Int×Int))):=
 cond (decide (V.2<(O.length:Int)))
  (qa (ql O V.2) fun v12=>
  qa (sC (qd .i64 ((qd .i64 (313*V.1))+(qd .i64 (v12.toNat:Int)))) 9999889) fun da=>
  Ga (.inl (da,qd .i64 (V.2+1))))
  (Ga (.inr (V.1,V.2)))
def Qx (O:aj)(V:Int×Int):bg:=⟨[(0,.str O,En),(3,Iv V.1,En),(7,Iv (O.length:Int),En),(8,Iv V.2,En)],[]⟩
def ZX (O:aj)(d:(Int×Int)):q9×bg:=(.exit 0,⟨[(0,.str O,En),(3,Iv d.1,En),(7,Iv (O.length:Int),En),(8,Iv d.2,En),(9,.bool En,En)],[]⟩)
theorem j2t (O:aj)(V:Int×Int)(r)(h:CC O V=Ga r):jo aB Hh (Qx O) (ZX O) V r:=by
 unfold CC at h;rcases qc h with⟨ei,h⟩|⟨ei,h⟩
 .obtain⟨v12,fX,h⟩:=qb h;obtain⟨da,l4,h⟩:=qb h;cases h;exact z5 (bH:=⟨[(0,.str O,En),(3,Iv da,En),(7,Iv (O.length:Int),En),(8,Iv (qd .i64 (V.2+1)),En)],[]⟩) (by simp only[go_sem,seval,Hh,Qx,ei,yp fX,PB l4]<;>rfl) (yg (Gd _))
 .cases h;exact qn (by simp only[go_sem,seval,Hh,Qx,ei,ZX]<;>rfl)
theorem j1k (O:aj){V:Int×Int}{d}(h:bd (CC O) V=Ga d):X aB (.loop Hh) (Qx O V)=Ga (ZX O d):=kz (j2t O) (fun d hh=>by cases hh) h
def f136 (O:aj):Option aj:=
 qa (bd (CC O) (1,0)) fun d16=>
 qa (f43 d16.1) fun eE=>
 qa (f211 ([48]:aj) (qd .i64 (7-(eE.length:Int)))) fun v20=>
 qa (gA v20 eE) fun v22=>
 Ga v22
theorem jxb {O:aj}{r}(h:f136 O=Ga r):ae aB (X aB) 136 [.str O]=Ga (.str r,En):=by
 unfold f136 at h;obtain⟨d16,oL,h⟩:=qb h;have xV:X aB (.loop Hh) ⟨[(0,.str O,En),(3,Iv 1,En),(7,Iv (O.length:Int),En),(8,Iv 0,En)],[]⟩=Ga (.exit 0,⟨[(0,.str O,En),(3,Iv d16.1,En),(7,Iv (O.length:Int),En),(8,Iv d16.2,En),(9,.bool En,En)],[]⟩):=j1k O oL;obtain⟨eE,pK,h⟩:=qb h;have ZY:ae aB (X aB) 43 [Iv d16.1]=Ga (.str eE,En):=Lh pK;obtain⟨v20,iq,h⟩:=qb h;have xW:ae aB (X aB) 211 [.str ([48]:aj),Iv (qd .i64 (7-(eE.length:Int)))]=Ga (.str v20,En):=zgi iq;obtain⟨v22,pL,h⟩:=qb h;have Q:v22=r:=Ga.inj h;subst Q
 have this:∃hh,ai aB (X aB) 136 [.str O] []=Ga (.str v22,En,hh):=by
  rw[qg (show aB.br 136=Ga CD from rfl) (by simp)];simp only[go_sem,seval,CD,xV,ZY,xW,lA pL];exact⟨_,rfl⟩
 obtain⟨hh,this⟩:=this;exact je rfl this (by first|rfl|simp only[go_sem,seval]) (by first|rfl|simp only[go_sem,seval])
end Go.Z
namespace Go.Z
open Go Go.Abs Go.W
def xX (O:aj)(V:Int×Nat):Option ((Int×Nat)⊕(Nat⊕(Int×Nat))):=
 cond (decide (V.2<O.length))
  (cond (decide (((qj O V.2).1:Int)<48))
   (Ga (.inr (.inl (V.2+(qj O V.2).2))))
   (cond (decide (57<((qj O V.2).1:Int)))
    (Ga (.inr (.inl (V.2+(qj O V.2).2))))
    (Ga (.inl (qd .i64 ((qd .i64 (10*V.1))+(qd .i64 (qd .i32 (((qj O V.2).1:Int)-48)))),V.2+(qj O V.2).2)))))
  (Ga (.inr (.inr (V.1,V.2))))
def Qy (O:aj)(V:Int×Nat):bg:=⟨[(4,Iv V.1,En),(25,.ptr 0 0,En)],[.iter O V.2]⟩
def Qz (O:aj):Nat⊕(Int×Nat)->q9×bg
 | .inl d=>(.ret,⟨[(2,Iv 0,En),(3,.bool En,En)],[.iter O d]⟩)| .inr d=>(.exit 0,⟨[(4,Iv d.1,En),(25,.ptr 0 0,En),(26,.aI [.bool En],En),(27,.bool En,En)],[.iter O d.2]⟩)
theorem jw2 (O:aj)(V:Int×Nat)(r)(h:xX O V=Ga r):jo aB CF (Qy O) (Qz O) V r:=by
 unfold xX at h
 repeat' first|(replace h:=qc h;rcases h with⟨g,h⟩|⟨g,h⟩)
 all_goals (cases h<;>((first|refine qn ?_|refine jr ?_);simp only[go_sem,seval,CF,Qy,zM,Qz, *]<;>rfl))
theorem jxn (O:aj){V:Int×Nat}{d}(h:bd (xX O) V=Ga d):X aB (.loop CF) (Qy O V)=Ga (Qz O d):=kz (jw2 O) (fun d=>by rcases d with d|d<;>(intro hh;cases hh)) h
def Li (O:aj)(V:Int×Nat):Option ((Int×Nat)⊕(Nat⊕(Int×Nat))):=
 cond (decide (V.2<O.length))
  (cond (decide (((qj O V.2).1:Int)<48))
   (Ga (.inr (.inl (V.2+(qj O V.2).2))))
   (cond (decide (57<((qj O V.2).1:Int)))
    (Ga (.inr (.inl (V.2+(qj O V.2).2))))
    (Ga (.inl (qd .i64 ((qd .i64 (10*V.1))+(qd .i64 (qd .i32 (((qj O V.2).1:Int)-48)))),V.2+(qj O V.2).2)))))
  (Ga (.inr (.inr (V.1,V.2))))
def QA (O:aj)(V:Int×Nat):bg:=⟨[(4,Iv V.1,En),(25,.ptr 0 0,En)],[.iter O V.2]⟩
def QB (O:aj):Nat⊕(Int×Nat)->q9×bg
 | .inl d=>(.ret,⟨[(2,Iv 0,En),(3,.bool En,En)],[.iter O d]⟩)| .inr d=>(.exit 0,⟨[(4,Iv d.1,En),(25,.ptr 0 0,En),(26,.aI [.bool En],En),(27,.bool En,En)],[.iter O d.2]⟩)
theorem jr7 (O:aj)(V:Int×Nat)(r)(h:Li O V=Ga r):jo aB CF (QA O) (QB O) V r:=by
 unfold Li at h
 repeat' first|(replace h:=qc h;rcases h with⟨g,h⟩|⟨g,h⟩)
 all_goals (cases h<;>((first|refine qn ?_|refine jr ?_);simp only[go_sem,seval,CF,QA,zM,QB, *]<;>rfl))
theorem jtd (O:aj){V:Int×Nat}{d}(h:bd (Li O) V=Ga d):X aB (.loop CF) (QA O V)=Ga (QB O d):=kz (jr7 O) (fun d=>by rcases d with d|d<;>(intro hh;cases hh)) h
def f123 (O:aj):Option (Int×Bool):=
 cond (decide (O=[]))
  (Ga (0,En))
  (cond (decide (9<(O.length:Int)))
   (Ga (0,En))
   (cond (decide (1<(O.length:Int)))
    (qa (ql O 0) fun v4=>
    cond (decide ((v4.toNat:Int)=48))
     (Ga (0,En))
     (qa (bd (xX O) (0,0)) fun d16=>match d16 with
      | .inl d18=>
       Ga (0,En)
      | .inr d19=>
       Ga (d19.1,Ha)))
    (qa (bd (Li O) (0,0)) fun d29=>match d29 with
     | .inl d31=>
      Ga (0,En)
     | .inr d32=>
      Ga (d32.1,Ha))))
theorem jzq {O:aj}{r}(h:f123 O=Ga r):ae aB (X aB) 123 [.str O]=Ga (.aI [Iv r.1,.bool r.2],En):=by
 unfold f123 at h;refine jz CG ?_
 repeat' first|(replace h:=qb h;obtain⟨d,g,h⟩:=h;with_reducible first|(replace g:=jxn O g;rcases d with d|d<;>dsimp only[Qy,Qz,zc]at g h)|(replace g:=jtd O g;rcases d with d|d<;>dsimp only[QA,QB,zc]at g h)|skip)|(replace h:=qc h;rcases h with⟨g,h⟩|⟨g,h⟩)
 all_goals (cases h<;>(simp only[go_sem,seval,CG,BL, *];exact⟨_,rfl⟩))
end Go.Z
namespace Go.Z
open Go Go.Abs Go.W
def f139 (O:Int):Option Bool:=
 cond (decide (O<48))
  (Ga Ha)
  (Ga (decide (57<O)))
theorem j11 (hp:qh){O:Int}{r}(h:f139 O=Ga r):ai aB (X aB) 139 [.int .i32 O] hp=Ga (.bool r,En,hp):=by
 unfold f139 at h;rw[qg (show aB.br 139=Ga CH from rfl) (by simp)]
 repeat' first|(replace h:=qc h;rcases h with⟨g,h⟩|⟨g,h⟩)
 all_goals (cases h<;>(simp only[go_sem,seval,CH, *]<;>rfl))
def CI (O:aj)(a2:Bool):Option (Option (Bool×Int×Nat)⊕((Int×Nat)⊕(Bool×Nat))):=
 cond (decide (0<O.length))
  (qa (f139 ((qj O 0).1:Int)) fun uf=>
  cond uf
   (cond a2
    (Ga (.inr (.inl ((0:Int),0+(qj O 0).2))))
    (Ga (.inl (Ga (En,(0:Int),0+(qj O 0).2)))))
   (cond a2
    (Ga (.inl (Ga (Ha,(0:Int),0+(qj O 0).2))))
    (Ga (.inr (.inl ((0:Int),0+(qj O 0).2))))))
  (Ga (.inr (.inr (a2,0))))
def xY (O:aj)(a2:Bool)(V:Bool×Int×Nat):Option (Option (Bool×Int×Nat)⊕((Int×Nat)⊕(Bool×Nat))):=
 cond (decide (V.2.2<O.length))
  (qa (f139 ((qj O V.2.2).1:Int)) fun dJ=>
  cond dJ
   (cond V.1
    (Ga (.inr (.inl ((V.2.2:Int),V.2.2+(qj O V.2.2).2))))
    (Ga (.inl (Ga (En,(V.2.2:Int),V.2.2+(qj O V.2.2).2)))))
   (cond V.1
    (Ga (.inl (Ga (Ha,(V.2.2:Int),V.2.2+(qj O V.2.2).2))))
    (Ga (.inr (.inl ((V.2.2:Int),V.2.2+(qj O V.2.2).2))))))
  (Ga (.inr (.inr (V.1,V.2.2))))
def Lj (O:aj)(a2:Bool):Option (Bool×Int×Nat)->Option (Option (Bool×Int×Nat)⊕((Int×Nat)⊕(Bool×Nat)))
 |none=>CI O a2|some x=>xY O a2 x
def ZZ (O:aj)(a2:Bool)(V:Bool×Int×Nat):bg:=⟨[(1,.fn (.func 139) [] [],En),(2,.bool V.1,En),(7,Iv V.2.1,En),(10,.ptr 0 0,En),(19,.bool En,En)],[.iter O V.2.2]⟩
def CJ (O:aj)(a2:Bool):Option (Bool×Int×Nat)->bg
 |none=>⟨[(1,.fn (.func 139) [] [],En),(2,.bool a2,En),(10,.ptr 0 0,En)],[.iter O 0]⟩|some x=>ZZ O a2 x
def CK (O:aj)(a2:Bool):(Int×Nat)⊕(Bool×Nat)->q9×bg
 | .inl d=>(.ret,⟨[(6,Iv d.1,En)],[.iter O d.2]⟩)| .inr d=>(.exit 0,⟨[(1,.fn (.func 139) [] [],En),(2,.bool d.1,En),(10,.ptr 0 0,En),(11,.aI [.bool En],En),(12,.bool En,En)],[.iter O d.2]⟩)
theorem jsl (O:aj)(a2:Bool)(r)(h:CI O a2=Ga r):jo aB CL (CJ O a2) (CK O a2) Gb r:=by
 unfold CI at h
 repeat' first|(replace h:=qb h;obtain⟨d,g,h⟩:=h;with_reducible first|replace g:=j11 [.iter O (0+(qj O 0).2)] g|skip)|(replace h:=qc h;rcases h with⟨g,h⟩|⟨g,h⟩)
 all_goals (cases h<;>((first|refine qn ?_|refine jr ?_);simp only[go_sem,seval,CL,CJ,ZZ,zM,Ig,Hq,Ii,H2,Ij,CK, *]<;>rfl))
theorem jt6 (O:aj)(a2:Bool)(V:Bool×Int×Nat)(r)(h:xY O a2 V=Ga r):jo aB CL (CJ O a2) (CK O a2) (Ga V) r:=by
 unfold xY at h
 repeat' first|(replace h:=qb h;obtain⟨d,g,h⟩:=h;with_reducible first|replace g:=j11 [.iter O (V.2.2+(qj O V.2.2).2)] g|skip)|(replace h:=qc h;rcases h with⟨g,h⟩|⟨g,h⟩)
 all_goals (cases h<;>((first|refine qn ?_|refine jr ?_);simp only[go_sem,seval,CL,CJ,ZZ,zM,Ig,Hq,Ii,H2,Ij,CK, *]<;>rfl))
theorem j3e (O:aj)(a2:Bool):∀(x:Option (Bool×Int×Nat)) (r) (h:Lj O a2 x=Ga r),jo aB CL (CJ O a2) (CK O a2) x r
 |none,r,h=>jsl O a2 r h|some x,r,h=>jt6 O a2 x r h
theorem jw6 (O:aj)(a2:Bool){V:Option (Bool×Int×Nat)}{d}(h:bd (Lj O a2) V=Ga d):X aB (.loop CL) (CJ O a2 V)=Ga (CK O a2 d):=kz (j3e O a2) (fun d=>by rcases d with d|d<;>(intro hh;cases hh)) h
def f260 (O:aj)(a2:Bool):Option Int:=
 qa (bd (Lj O a2) Gb) fun d40=>match d40 with
  | .inl d42=>
   Ga d42.1
  | .inr d43=>
   Ga (-1)
theorem zjp {O:aj}{a2:Bool}{r}(h:f260 O a2=Ga r):ae aB (X aB) 260 [.str O,.fn (.func 139) [] [],.bool a2]=Ga (Iv r,En):=by
 unfold f260 at h;refine jz CM ?_
 repeat' first|(replace h:=qb h;obtain⟨d,g,h⟩:=h;with_reducible first|(replace g:=jw6 O a2 g;rcases d with d|d<;>dsimp only[CJ,CK,zc]at g h)|skip)|(replace h:=qc h;rcases h with⟨g,h⟩|⟨g,h⟩)
 all_goals (cases h<;>(simp only[go_sem,seval,CM, *];exact⟨_,rfl⟩))
def f213 (O:aj):Option Int:=
 qa (f260 O Ha) fun v1=>
 Ga v1
theorem zia {O:aj}{r}(h:f213 O=Ga r):ae aB (X aB) 213 [.str O,.fn (.func 139) [] []]=Ga (Iv r,En):=by
 unfold f213 at h;refine jz CN ?_
 repeat' first|(replace h:=qb h;obtain⟨d,g,h⟩:=h;with_reducible first|replace g:=zjp g|skip)|(replace h:=qc h;rcases h with⟨g,h⟩|⟨g,h⟩)
 all_goals (cases h<;>(simp only[go_sem,seval,CN, *];exact⟨_,rfl⟩))
def f138 (O:aj):Option Bool:=
 qa (f213 O) fun v1=>
 Ga (decide (0<=v1))
theorem zky {O:aj}{r}(h:f138 O=Ga r):ae aB (X aB) 138 [.str O,.fn (.func 139) [] []]=Ga (.bool r,En):=by
 unfold f138 at h;refine jz CO ?_
 repeat' first|(replace h:=qb h;obtain⟨d,g,h⟩:=h;with_reducible first|replace g:=zia g|skip)|(replace h:=qc h;rcases h with⟨g,h⟩|⟨g,h⟩)
 all_goals (cases h<;>(simp only[go_sem,seval,CO, *];exact⟨_,rfl⟩))
def Ar (O:ak Int)(V:(ak aj)×Int×Bool):Option (((ak aj)×Int×Bool)⊕(((ak aj)×Bool×Int))):=
 cond (decide (V.2.1<((O.getD []).length:Int)))
  (qa (ql (O.getD []) V.2.1) fun eE=>
  qa (f43 eE) fun v20=>
  cond V.2.2
   (qa (bB V.1 [v20]) fun v23=>
   Ga (.inl (v23,qd .i64 (V.2.1+1),Ha)))
   (cond V.1.isNone
    (qa (bB V.1 [v20]) fun v26=>
    Ga (.inl (v26,qd .i64 (V.2.1+1),Ha)))
    (Gb)))
  (Ga (.inr (V.1,V.2.2,V.2.1)))
def QC (O:ak Int)(V:(ak aj)×Int×Bool):bg:=⟨[(1,.fn (.func 43) [] [],En),(5,sl 1 qx V.1,V.2.2),(8,sl 1 zf O,En),(9,Lv O,En),(10,Iv V.2.1,En)],[]⟩
def QD (O:ak Int)(d:((ak aj)×Bool×Int)):q9×bg:=(.exit 0,⟨[(1,.fn (.func 43) [] [],En),(5,sl 1 qx d.1,d.2.1),(8,sl 1 zf O,En),(9,Lv O,En),(10,Iv d.2.2,En),(11,.bool En,En)],[]⟩)
theorem jw7 (O:ak Int)(V:(ak aj)×Int×Bool)(r)(h:Ar O V=Ga r):jo aB QE (QC O) (QD O) V r:=by
 unfold Ar at h
 repeat' first|(replace h:=qb h;obtain⟨d,g,h⟩:=h;with_reducible first|replace g:=zfw [] g|replace g:=tI g|skip)|(replace h:=qc h;rcases h with⟨g,h⟩|⟨g,h⟩)
 all_goals (cases h<;>((first|refine qn ?_|refine jr ?_);simp only[go_sem,seval,QE,QC,ji,QD, *]<;>rfl))
theorem j2l (O:ak Int){V:(ak aj)×Int×Bool}{d}(h:bd (Ar O) V=Ga d):X aB (.loop QE) (QC O V)=Ga (QD O d):=kz (jw7 O) (fun d hh=>by cases hh) h
def f210 (O:ak Int):Option ((ak aj)×Bool):=
 qa (bd (Ar O) (Gb,0,En)) fun d28=>
 Ga (d28.1,d28.2.1)
theorem zlb {O:ak Int}{r}(h:f210 O=Ga r):ae aB (X aB) 210 [sl 1 zf O,.fn (.func 43) [] []]=Ga (sl 1 qx r.1,r.2):=by
 unfold f210 at h;refine yc CP ?_
 repeat' first|(replace h:=qb h;obtain⟨d,g,h⟩:=h;with_reducible first|(replace g:=j2l O g;dsimp only[QC,QD,zc]at g h)|skip)|(replace h:=qc h;rcases h with⟨g,h⟩|⟨g,h⟩)
 all_goals (cases h<;>(simp only[go_sem,seval,CP, *];exact⟨_,rfl⟩))
def f135 (O:aC):Option aj:=
 qa (f43 O.number) fun v1=>
 qa (bB (Ga [v1,O.kind]) (O.names.getD [])) fun v3=>
 qa (f210 O.values) fun v5=>
 qa (bB v3 (v5.1.getD [])) fun v7=>
 qa (f47 v7 ([32]:aj)) fun v9=>
 Ga v9
theorem zix {O:aC}{r}(h:f135 O=Ga r):ae aB (X aB) 135 [aE O]=Ga (.str r,En):=by
 unfold f135 at h;obtain⟨v1,I,h⟩:=qb h;have lC:ae aB (X aB) 43 [Iv O.number]=Ga (.str v1,En):=Lh I;obtain⟨v3,h4,h⟩:=qb h;obtain⟨v5,h6,h⟩:=qb h;have rz:ae aB (X aB) 210 [sl 1 zf O.values,.fn (.func 43) [] []]=Ga (sl 1 qx v5.1,v5.2):=zlb h6;obtain⟨v7,h8,h⟩:=qb h;obtain⟨v9,eh,h⟩:=qb h;have oZ:ae aB (X aB) 47 [sl 1 qx v7,.str ([32]:aj)]=Ga (.str v9,En):=Hg eh;have Q:v9=r:=Ga.inj h;subst Q
 have this:∃hh,ai aB (X aB) 135 [aE O] []=Ga (.str v9,En,hh):=by
  rw[qg (show aB.br 135=Ga CQ from rfl) (by simp)];simp only[go_sem,seval,CQ,lC,(show ∀(b t:Nat) (hq:qh),bV 1 b hq (Ga t) (Ga (.list En 1 [.str v1,.str O.kind])) (Ga (sl 1 qx O.names))=ct (decide (b<=4096)) (Ga ⟨sl 1 qx v3,Ha,Ga t,hq⟩)from fun _ _ _=>XP (o:=Ga [v1,O.kind]) h4),rz,XP h8,oZ];exact⟨_,rfl⟩
 obtain⟨hh,this⟩:=this;exact je rfl this (by first|rfl|simp only[go_sem,seval]) (by first|rfl|simp only[go_sem,seval])
def f49 (O:aC):Option aj:=
 qa (f135 O) fun v1=>
 qa (gA v1 ([35]:aj)) fun v3=>
 qa (f136 v1) fun v5=>
 qa (gA v3 v5) fun v7=>
 qa (gA v7 ([10]:aj)) fun v9=>
 Ga v9
end Go.Z
namespace Go.Z
open Go Go.Abs Go.W
theorem zge {O:ak aj}{J:aj}{r}(h:f63 O J=Ga r):ae aB (X aB) 63 [sl 1 qx O,.str J]=Ga (.bool r,En):=aH.ae (QF h)
theorem zem {O:ak Int}{r}(h:f35 O=Ga r):ae aB (X aB) 35 [sl 1 zf O]=Ga (Iv r,En):=aH.ae (gC h)
theorem j3q {O:Bool}{J:Int}{r}(h:f36 O J=Ga r):ae aB (X aB) 36 [.bool O,Iv J]=Ga (Iv r,En):=aH.ae (dI h)
theorem zgn {O:aC}{r}(h:f41 O=Ga r):ae aB (X aB) 41 [aE O]=Ga (Iv r,En):=aH.ae (Lk h)
theorem j7y {O:ak aj}{r}(h:f120 O=Ga r):ae aB (X aB) 120 [sl 1 qx O]=Ga (sl 1 qx r.1,r.2):=aH.ae (Z1 h)
@[go_sem] theorem zel:aB.maps 39=Ga jc:=rfl
def f122 (O:aj)(dV:Bool):Option (Int×Bool):=
 qa (f123 O) fun v1=>
 cond dV
  (Ga (v1.1,v1.2))
  (Ga (v1.1,En))
theorem zhs {O:aj}{dV:Bool}{x0:aM}{x1:aM}{x2:aM}{r}(h:f122 O dV=Ga r):ai aB (X aB) 122 [.str O,.ptr 3 0] [x0,x1,x2,.cells [(.bool dV,En)]]=Ga (Iv r.1,En,[x0,x1,x2,.cells [(.bool r.2,En)]]):=by
 unfold f122 at h;rw[qg (show aB.br 122=Ga CR from rfl) (by simp)]
 repeat' first|(replace h:=qb h;obtain⟨d,g,h⟩:=h;with_reducible first|replace g:=jzq g|skip)|(replace h:=qc h;rcases h with⟨g,h⟩|⟨g,h⟩)
 all_goals (cases h<;>(simp only[go_sem,seval,CR, *]<;>rfl))
def As (O:ak aj)(V:(ak Int)×Int×Bool×Bool):Option (((ak Int)×Int×Bool×Bool)⊕(((ak Int)×Bool×Int×Bool))):=
 cond (decide (V.2.1<((O.getD []).length:Int)))
  (qa (ql (O.getD []) V.2.1) fun eE=>
  qa (f122 eE V.2.2.1) fun v20=>
  cond V.2.2.2
   (qa (bB V.1 [v20.1]) fun v23=>
   Ga (.inl (v23,qd .i64 (V.2.1+1),v20.2,Ha)))
   (cond V.1.isNone
    (qa (bB V.1 [v20.1]) fun v26=>
    Ga (.inl (v26,qd .i64 (V.2.1+1),v20.2,Ha)))
    (Gb)))
  (Ga (.inr (V.1,V.2.2.2,V.2.1,V.2.2.1)))
def Hj (O:ak aj)(x0:aM)(x1:aM)(x2:aM)(V:(ak Int)×Int×Bool×Bool):bg:=⟨[(1,.fn (.func 122) [] [.ptr 3 0],En),(5,sl 1 zf V.1,V.2.2.2),(8,sl 1 qx O,En),(9,Lv O,En),(10,Iv V.2.1,En)],[x0,x1,x2,.cells [(.bool V.2.2.1,En)]]⟩
def QG (O:ak aj)(x0:aM)(x1:aM)(x2:aM)(d:((ak Int)×Bool×Int×Bool)):q9×bg:=(.exit 0,⟨[(1,.fn (.func 122) [] [.ptr 3 0],En),(5,sl 1 zf d.1,d.2.1),(8,sl 1 qx O,En),(9,Lv O,En),(10,Iv d.2.2.1,En),(11,.bool En,En)],[x0,x1,x2,.cells [(.bool d.2.2.2,En)]]⟩)
theorem jxz (O:ak aj)(x0:aM)(x1:aM)(x2:aM)(V:(ak Int)×Int×Bool×Bool)(r)(h:As O V=Ga r):jo aB Hk (Hj O x0 x1 x2) (QG O x0 x1 x2) V r:=by
 unfold As at h;rcases qc h with⟨oL,h⟩|⟨oL,h⟩
 .obtain⟨eE,pK,h⟩:=qb h;obtain⟨v20,iq,h⟩:=qb h;have xW:ai aB (X aB) 122 [.str eE,.ptr 3 0] [x0,x1,x2,.cells [(.bool V.2.2.1,En)]]=Ga (Iv v20.1,En,[x0,x1,x2,.cells [(.bool v20.2,En)]]):=zhs iq;rcases qc h with⟨gj,h⟩|⟨gj,h⟩
  .obtain⟨v23,lu,h⟩:=qb h;cases h;exact z5 (bH:=⟨[(1,.fn (.func 122) [] [.ptr 3 0],En),(5,sl 1 zf v23,Ha),(8,sl 1 qx O,En),(9,Lv O,En),(10,Iv (qd .i64 (V.2.1+1)),En)],[x0,x1,x2,.cells [(.bool v20.2,En)]]⟩) (by simp only[go_sem,seval,Hk,Hj,oL,jn pK,xW,gj,q15 lu]<;>rfl) (yg (Gd _))
  .rcases qc h with⟨qO,h⟩|⟨qO,h⟩
   .obtain⟨v26,nC,h⟩:=qb h;cases h;exact z5 (bH:=⟨[(1,.fn (.func 122) [] [.ptr 3 0],En),(5,sl 1 zf v26,Ha),(8,sl 1 qx O,En),(9,Lv O,En),(10,Iv (qd .i64 (V.2.1+1)),En)],[x0,x1,x2,.cells [(.bool v20.2,En)]]⟩) (by simp only[go_sem,seval,Hk,Hj,oL,jn pK,xW,gj,qO,q0g nC qO]<;>rfl) (yg (Gd _))
   .cases h
 .cases h;exact qn (by simp only[go_sem,seval,Hk,Hj,oL,QG]<;>rfl)
theorem jz8 (O:ak aj)(x0:aM)(x1:aM)(x2:aM){V:(ak Int)×Int×Bool×Bool}{d}(h:bd (As O) V=Ga d):X aB (.loop Hk) (Hj O x0 x1 x2 V)=Ga (QG O x0 x1 x2 d):=kz (jxz O x0 x1 x2) (fun d hh=>by cases hh) h
def f121 (O:ak aj)(dV:Bool):Option ((ak Int)×Bool×Bool):=
 qa (bd (As O) (Gb,0,dV,En)) fun d28=>
 Ga (d28.1,d28.2.1,d28.2.2.2)
theorem zj2 {O:ak aj}{dV:Bool}{x0:aM}{x1:aM}{x2:aM}{r}(h:f121 O dV=Ga r):ai aB (X aB) 121 [sl 1 qx O,.fn (.func 122) [] [.ptr 3 0]] [x0,x1,x2,.cells [(.bool dV,En)]]=Ga (sl 1 zf r.1,r.2.1,[x0,x1,x2,.cells [(.bool r.2.2,En)]]):=by
 unfold f121 at h;rw[qg (show aB.br 121=Ga CS from rfl) (by simp)]
 repeat' first|(replace h:=qb h;obtain⟨d,g,h⟩:=h;with_reducible first|(replace g:=jz8 O x0 x1 x2 g;dsimp only[Hj,QG,zc]at g h)|skip)|(replace h:=qc h;rcases h with⟨g,h⟩|⟨g,h⟩)
 all_goals (cases h<;>(simp only[go_sem,seval,CS, *]<;>rfl))
def f40 (O:ak aj)(J:Int):Option (aC×Bool):=
 qa (ql (O.getD []) 0) fun v1=>
 cond (lY v1)
  (cond (decide (((O.getD []).length:Int)=(qd .i64 ((qd .i64 (1+((j9 v1).length:Int)))+(mN v1)))))
   (qa (f63 O []) fun v5=>
   cond v5
    (Ga (⟨0,[],Gb,Gb,[]⟩,En))
    (qa (n8 O (Ga 1) (Ga (qd .i64 (1+((j9 v1).length:Int))))) fun v8=>
    qa (f120 v8) fun v10=>
    qa (n8 O (Ga (qd .i64 (1+((j9 v1).length:Int)))) Gb) fun v12=>
    qa (f121 v12 Ha) fun da=>
    cond da.2.1
     (Ga (⟨J,v1,v10.1,da.1,[]⟩,da.2.2))
     (Ga (⟨J,v1,v10.1,da.1,[]⟩,da.2.2))))
   (Ga (⟨0,[],Gb,Gb,[]⟩,En)))
  (Ga (⟨0,[],Gb,Gb,[]⟩,En))
theorem Ll {O:ak aj}{J:Int}{r}(h:f40 O J=Ga r):ae aB (X aB) 40 [sl 1 qx O,Iv J]=Ga (.aI [aE r.1,.bool r.2],En):=by
 unfold f40 at h;obtain⟨v1,I,h⟩:=qb h;rcases qc h with⟨h3,h⟩|⟨h3,h⟩
 .rcases qc h with⟨h4,h⟩|⟨h4,h⟩
  .obtain⟨v5,h6,h⟩:=qb h;have rz:ae aB (X aB) 63 [sl 1 qx O,.str []]=Ga (.bool v5,En):=zge h6;rcases qc h with⟨h7,h⟩|⟨h7,h⟩
   .have Q:(⟨0,[],Gb,Gb,[]⟩,En)=r:=Ga.inj h;subst Q
    have this:∃hh,ai aB (X aB) 40 [sl 1 qx O,Iv J] []=Ga (.aI [.agg [Iv 0,.str [],Nl,Nl,.str []],.bool En],En,hh):=by
     rw[qg (show aB.br 40=Ga sF from rfl) (by simp)];simp only[go_sem,seval,sF,jn I,tL,h3,h4,rz,h7];exact⟨_,rfl⟩
    obtain⟨hh,this⟩:=this;exact je rfl this (by first|rfl|simp only[go_sem,seval]) (by first|rfl|simp only[go_sem,seval])
   .obtain⟨v8,h9,h⟩:=qb h;obtain⟨v10,ei,h⟩:=qb h;have Lm:ae aB (X aB) 120 [sl 1 qx v8]=Ga (sl 1 qx v10.1,v10.2):=j7y ei;obtain⟨v12,fX,h⟩:=qb h;obtain⟨da,l4,h⟩:=qb h;have xZ:ai aB (X aB) 121 [sl 1 qx v12,.fn (.func 122) [] [.ptr 3 0]] [.cells [(Iv 0,En),(.str [],En),(Nl,En),(Nl,En),(.str [],En)],.map jc,.cells [(Iv J,En),(.str v1,En),(sl 1 qx v10.1,En),(Nl,En),(.str [],En)],.cells [(.bool Ha,En)]]=Ga (sl 1 zf da.1,da.2.1,[.cells [(Iv 0,En),(.str [],En),(Nl,En),(Nl,En),(.str [],En)],.map jc,.cells [(Iv J,En),(.str v1,En),(sl 1 qx v10.1,En),(Nl,En),(.str [],En)],.cells [(.bool da.2.2,En)]]):=zj2 l4;rcases qc h with⟨jQ,h⟩|⟨jQ,h⟩
    .rw[jQ]at xZ;have Q:(⟨J,v1,v10.1,da.1,[]⟩,da.2.2)=r:=Ga.inj h;subst Q
     have this:∃hh,ai aB (X aB) 40 [sl 1 qx O,Iv J] []=Ga (.aI [.agg [Iv J,.str v1,sl 1 qx v10.1,sl 1 zf da.1,.str []],.bool da.2.2],En,hh):=by
      rw[qg (show aB.br 40=Ga sF from rfl) (by simp)];simp only[go_sem,seval,sF,jn I,tL,h3,h4,rz,h7,q7d h9,Lm,jcl fX,xZ,jQ];exact⟨_,rfl⟩
     obtain⟨hh,this⟩:=this;exact je rfl this (by first|rfl|simp only[go_sem,seval]) (by first|rfl|simp only[go_sem,seval])
    .rw[jQ]at xZ;have Q:(⟨J,v1,v10.1,da.1,[]⟩,da.2.2)=r:=Ga.inj h;subst Q
     have this:∃hh,ai aB (X aB) 40 [sl 1 qx O,Iv J] []=Ga (.aI [.agg [Iv J,.str v1,sl 1 qx v10.1,sl 1 zf da.1,.str []],.bool da.2.2],En,hh):=by
      rw[qg (show aB.br 40=Ga sF from rfl) (by simp)];simp only[go_sem,seval,sF,jn I,tL,h3,h4,rz,h7,q7d h9,Lm,jcl fX,xZ,jQ];exact⟨_,rfl⟩
     obtain⟨hh,this⟩:=this;exact je rfl this (by first|rfl|simp only[go_sem,seval]) (by first|rfl|simp only[go_sem,seval])
  .have Q:(⟨0,[],Gb,Gb,[]⟩,En)=r:=Ga.inj h;subst Q
   have this:∃hh,ai aB (X aB) 40 [sl 1 qx O,Iv J] []=Ga (.aI [.agg [Iv 0,.str [],Nl,Nl,.str []],.bool En],En,hh):=by
    rw[qg (show aB.br 40=Ga sF from rfl) (by simp)];simp only[go_sem,seval,sF,jn I,tL,h3,h4];exact⟨_,rfl⟩
   obtain⟨hh,this⟩:=this;exact je rfl this (by first|rfl|simp only[go_sem,seval]) (by first|rfl|simp only[go_sem,seval])
 .have Q:(⟨0,[],Gb,Gb,[]⟩,En)=r:=Ga.inj h;subst Q
  have this:∃hh,ai aB (X aB) 40 [sl 1 qx O,Iv J] []=Ga (.aI [.agg [Iv 0,.str [],Nl,Nl,.str []],.bool En],En,hh):=by
   rw[qg (show aB.br 40=Ga sF from rfl) (by simp)];simp only[go_sem,seval,sF,jn I,tL,h3];exact⟨_,rfl⟩
  obtain⟨hh,this⟩:=this;exact je rfl this (by first|rfl|simp only[go_sem,seval]) (by first|rfl|simp only[go_sem,seval])
def f140 (O:aj):Option (aC×Bool):=
 qa (f52 O ([32]:aj)) fun v1=>
 qa (f123 v1.1) fun v3=>
 cond v1.2.2
  (cond v3.2
   (qa (f19 v1.2.1 ([32]:aj)) fun v7=>
   qa (f40 v7 v3.1) fun v9=>
   cond v9.2
    (qa (f41 v9.1) fun v12=>
    Ga (v9.1,decide (v12=0)))
    (Ga (v9.1,En)))
   (Ga (⟨0,[],Gb,Gb,[]⟩,En)))
  (Ga (⟨0,[],Gb,Gb,[]⟩,En))
theorem ze4 {O:aj}{r}(h:f140 O=Ga r):ae aB (X aB) 140 [.str O]=Ga (.aI [aE r.1,.bool r.2],En):=by
 unfold f140 at h;refine jz CT ?_
 repeat' first|(replace h:=qb h;obtain⟨d,g,h⟩:=h;with_reducible first|replace g:=W52 g|replace g:=jzq g|replace g:=Cz g|replace g:=Ll g|replace g:=zgn g|skip)|(replace h:=qc h;rcases h with⟨g,h⟩|⟨g,h⟩)
 all_goals (cases h<;>(simp only[go_sem,seval,CT, *];exact⟨_,rfl⟩))
def f53 (O:aj)(J:Int):Option (aC×Int):=
 cond (decide ((qd .i64 ((O.length:Int)-8))<0))
  (Ga (⟨0,[],Gb,Gb,[]⟩,26))
  (qa (ql O (qd .i64 ((O.length:Int)-8))) fun v2=>
  cond (decide ((v2.toNat:Int)=35))
   (qa (fY O (Ga (qd .i64 ((qd .i64 ((O.length:Int)-8))+1))) Gb) fun v5=>
   qa (f138 v5) fun v7=>
   cond v7
    (Ga (⟨0,[],Gb,Gb,[]⟩,26))
    (qa (fY O Gb (Ga (qd .i64 ((O.length:Int)-8)))) fun v10=>
    qa (f136 v10) fun v12=>
    cond (decide (v5=v12))
     (qa (f140 v10) fun dA=>
     qa (f36 (!dA.2) 26) fun eF=>
     qa (f36 (!decide (dA.1.number=(qd .i64 (J+1)))) 11) fun ey=>
     qa (f35 (Ga [eF,ey])) fun v21=>
     cond (decide (v21=0))
      (Ga (dA.1,0))
      (Ga (⟨0,[],Gb,Gb,[]⟩,v21)))
     (Ga (⟨0,[],Gb,Gb,[]⟩,28))))
   (Ga (⟨0,[],Gb,Gb,[]⟩,26)))
theorem W53 {O:aj}{J:Int}{r}(h:f53 O J=Ga r):ae aB (X aB) 53 [.str O,Iv J]=Ga (.aI [aE r.1,Iv r.2],En):=by
 unfold f53 at h;rcases qc h with⟨Y,h⟩|⟨Y,h⟩
 .have Q:(⟨0,[],Gb,Gb,[]⟩,26)=r:=Ga.inj h;subst Q
  have this:∃hh,ai aB (X aB) 53 [.str O,Iv J] []=Ga (.aI [.agg [Iv 0,.str [],Nl,Nl,.str []],Iv 26],En,hh):=by
   rw[qg (show aB.br 53=Ga rA from rfl) (by simp)];simp only[go_sem,seval,rA,Y];exact⟨_,rfl⟩
  obtain⟨hh,this⟩:=this;exact je rfl this (by first|rfl|simp only[go_sem,seval]) (by first|rfl|simp only[go_sem,seval])
 .obtain⟨v2,h3,h⟩:=qb h;rcases qc h with⟨h4,h⟩|⟨h4,h⟩
  .obtain⟨v5,h6,h⟩:=qb h;obtain⟨v7,h8,h⟩:=qb h;have ol:ae aB (X aB) 138 [.str v5,.fn (.func 139) [] []]=Ga (.bool v7,En):=zky h8;rcases qc h with⟨h9,h⟩|⟨h9,h⟩
   .have Q:(⟨0,[],Gb,Gb,[]⟩,26)=r:=Ga.inj h;subst Q
    have this:∃hh,ai aB (X aB) 53 [.str O,Iv J] []=Ga (.aI [.agg [Iv 0,.str [],Nl,Nl,.str []],Iv 26],En,hh):=by
     rw[qg (show aB.br 53=Ga rA from rfl) (by simp)];simp only[go_sem,seval,rA,Y,yp h3,h4,y7 h6,ol,h9];exact⟨_,rfl⟩
    obtain⟨hh,this⟩:=this;exact je rfl this (by first|rfl|simp only[go_sem,seval]) (by first|rfl|simp only[go_sem,seval])
   .obtain⟨v10,ei,h⟩:=qb h;obtain⟨v12,fX,h⟩:=qb h;have fB:ae aB (X aB) 136 [.str v10]=Ga (.str v12,En):=jxb fX;rcases qc h with⟨fF,h⟩|⟨fF,h⟩
    .obtain⟨dA,jQ,h⟩:=qb h;have iZ:ae aB (X aB) 140 [.str v10]=Ga (.aI [aE dA.1,.bool dA.2],En):=ze4 jQ;obtain⟨eF,l6,h⟩:=qb h;have rB:ae aB (X aB) 36 [.bool (!dA.2),Iv 26]=Ga (Iv eF,En):=j3q l6;obtain⟨ey,nx,h⟩:=qb h;have fN:ae aB (X aB) 36 [.bool (!decide (dA.1.number=(qd .i64 (J+1)))),Iv 11]=Ga (Iv ey,En):=j3q nx;obtain⟨v21,gj,h⟩:=qb h;have rC:ae aB (X aB) 35 [.list En 1 [Iv eF,Iv ey]]=Ga (Iv v21,En):=zem gj;rcases qc h with⟨pL,h⟩|⟨pL,h⟩
     .have Q:(dA.1,0)=r:=Ga.inj h;subst Q
      have this:∃hh,ai aB (X aB) 53 [.str O,Iv J] []=Ga (.aI [aE dA.1,Iv 0],En,hh):=by
       rw[qg (show aB.br 53=Ga rA from rfl) (by simp)];simp only[go_sem,seval,rA,Y,yp h3,h4,y7 h6,ol,h9,wh ei,fB,fF,iZ,rB,fN,rC,pL];exact⟨_,rfl⟩
      obtain⟨hh,this⟩:=this;exact je rfl this (by first|rfl|simp only[go_sem,seval]) (by first|rfl|simp only[go_sem,seval])
     .have Q:(⟨0,[],Gb,Gb,[]⟩,v21)=r:=Ga.inj h;subst Q
      have this:∃hh,ai aB (X aB) 53 [.str O,Iv J] []=Ga (.aI [.agg [Iv 0,.str [],Nl,Nl,.str []],Iv v21],En,hh):=by
       rw[qg (show aB.br 53=Ga rA from rfl) (by simp)];simp only[go_sem,seval,rA,Y,yp h3,h4,y7 h6,ol,h9,wh ei,fB,fF,iZ,rB,fN,rC,pL];exact⟨_,rfl⟩
      obtain⟨hh,this⟩:=this;exact je rfl this (by first|rfl|simp only[go_sem,seval]) (by first|rfl|simp only[go_sem,seval])
    .have Q:(⟨0,[],Gb,Gb,[]⟩,28)=r:=Ga.inj h;subst Q
     have this:∃hh,ai aB (X aB) 53 [.str O,Iv J] []=Ga (.aI [.agg [Iv 0,.str [],Nl,Nl,.str []],Iv 28],En,hh):=by
      rw[qg (show aB.br 53=Ga rA from rfl) (by simp)];simp only[go_sem,seval,rA,Y,yp h3,h4,y7 h6,ol,h9,wh ei,fB,fF];exact⟨_,rfl⟩
     obtain⟨hh,this⟩:=this;exact je rfl this (by first|rfl|simp only[go_sem,seval]) (by first|rfl|simp only[go_sem,seval])
  .have Q:(⟨0,[],Gb,Gb,[]⟩,26)=r:=Ga.inj h;subst Q
   have this:∃hh,ai aB (X aB) 53 [.str O,Iv J] []=Ga (.aI [.agg [Iv 0,.str [],Nl,Nl,.str []],Iv 26],En,hh):=by
    rw[qg (show aB.br 53=Ga rA from rfl) (by simp)];simp only[go_sem,seval,rA,Y,yp h3,h4];exact⟨_,rfl⟩
   obtain⟨hh,this⟩:=this;exact je rfl this (by first|rfl|simp only[go_sem,seval]) (by first|rfl|simp only[go_sem,seval])
def ug (O:aj)(V:(ak aC)×Int×Bool):Option (((ak aC)×Int×Bool)⊕(((ak aC)×Bool×Int×Int)⊕((ak aC)×Bool×Int))):=
 cond (decide (V.2.1<(O.length:Int)))
  (qa (fY O (Ga V.2.1) Gb) fun nD=>
  qa (f52 nD ([10]:aj)) fun dJ=>
  cond dJ.2.2
   (qa (f53 dJ.1 ((V.1.getD []).length:Int)) fun fG=>
   cond (decide (fG.2=0))
    (cond V.2.2
     (qa (bB V.1 [fG.1]) fun jY=>
     Ga (.inl (jY,qd .i64 (V.2.1+(qd .i64 ((dJ.1.length:Int)+1))),Ha)))
     (cond V.1.isNone
      (qa (bB V.1 [fG.1]) fun l9=>
      Ga (.inl (l9,qd .i64 (V.2.1+(qd .i64 ((dJ.1.length:Int)+1))),Ha)))
      (Gb)))
    (Ga (.inr (.inl (V.1,V.2.2,V.2.1,fG.2)))))
   (Ga (.inr (.inl (V.1,V.2.2,V.2.1,29)))))
  (Ga (.inr (.inr (V.1,V.2.2,V.2.1))))
def Au (O:aj)(V:(ak aC)×Int×Bool):bg:=⟨[(0,.str O,En),(5,sl 5 bK V.1,V.2.2),(6,Iv V.2.1,En)],[]⟩
def Hl (O:aj):((ak aC)×Bool×Int×Int)⊕((ak aC)×Bool×Int)->q9×bg
 | .inl d=>(.ret,⟨[(2,sl 5 bK d.1,d.2.1),(3,Iv d.2.2.1,En),(4,Iv d.2.2.2,En)],[]⟩)| .inr d=>(.exit 0,⟨[(0,.str O,En),(5,sl 5 bK d.1,d.2.1),(6,Iv d.2.2,En),(18,.bool En,En)],[]⟩)
theorem j92 (O:aj)(V:(ak aC)×Int×Bool)(r)(h:ug O V=Ga r):jo aB Av (Au O) (Hl O) V r:=by
 unfold ug at h;rcases qc h with⟨mP,h⟩|⟨mP,h⟩
 .obtain⟨nD,jI,h⟩:=qb h;obtain⟨dJ,lB,h⟩:=qb h;have kT:ae aB (X aB) 52 [.str nD,.str ([10]:aj)]=Ga (.aI [.str dJ.1,.str dJ.2.1,.bool dJ.2.2],En):=W52 lB;rcases qc h with⟨fA,h⟩|⟨fA,h⟩
  .rw[fA]at kT;obtain⟨fG,oY,h⟩:=qb h;have rD:ae aB (X aB) 53 [.str dJ.1,Lv V.1]=Ga (.aI [aE fG.1,Iv fG.2],En):=W53 oY;rcases qc h with⟨Cv,h⟩|⟨Cv,h⟩
   .rcases qc h with⟨gW,h⟩|⟨gW,h⟩
    .obtain⟨jY,wA,h⟩:=qb h;cases h;exact z5 (bH:=⟨[(0,.str O,En),(5,sl 5 bK jY,Ha),(6,Iv (qd .i64 (V.2.1+(qd .i64 ((dJ.1.length:Int)+1)))),En)],[]⟩) (by simp only[go_sem,seval,Av,Au,mP,y7 jI,kT,fA,rD,Cv,gW,J3 wA]<;>rfl) (yg (Gd _))
    .rcases qc h with⟨rn,h⟩|⟨rn,h⟩
     .obtain⟨l9,Lg,h⟩:=qb h;cases h;exact z5 (bH:=⟨[(0,.str O,En),(5,sl 5 bK l9,Ha),(6,Iv (qd .i64 (V.2.1+(qd .i64 ((dJ.1.length:Int)+1)))),En)],[]⟩) (by simp only[go_sem,seval,Av,Au,mP,y7 jI,kT,fA,rD,Cv,gW,rn,Pa Lg rn]<;>rfl) (yg (Gd _))
     .cases h
   .cases h;exact qn (by simp only[go_sem,seval,Av,Au,mP,y7 jI,kT,fA,rD,Cv,Hl]<;>rfl)
  .rw[fA]at kT;cases h;exact qn (by simp only[go_sem,seval,Av,Au,mP,y7 jI,kT,fA,Hl]<;>rfl)
 .cases h;exact qn (by simp only[go_sem,seval,Av,Au,mP,Hl]<;>rfl)
theorem zae (O:aj){V:(ak aC)×Int×Bool}{d}(h:bd (ug O) V=Ga d):X aB (.loop Av) (Au O V)=Ga (Hl O d):=kz (j92 O) (fun d=>by rcases d with d|d<;>(intro hh;cases hh)) h
def f17 (O:aj):Option ((ak aC)×Int×Int):=
 cond (decide (1000000<(O.length:Int)))
  (Ga (Gb,0,27))
  (qa (bd (ug O) (Gb,0,En)) fun d41=>match d41 with
   | .inl d43=>
    Ga (d43.1,d43.2.2.1,d43.2.2.2)
   | .inr d44=>
    Ga (d44.1,d44.2.2,0))
theorem W17 {O:aj}{r}(h:f17 O=Ga r):ae aB (X aB) 17 [.str O]=Ga (.aI [sl 5 bK r.1,Iv r.2.1,Iv r.2.2],En):=by
 unfold f17 at h;refine jz Z2 ?_
 repeat' first|(replace h:=qb h;obtain⟨d,g,h⟩:=h;with_reducible first|(replace g:=zae O g;rcases d with d|d<;>dsimp only[Au,Hl,zc]at g h)|skip)|(replace h:=qc h;rcases h with⟨g,h⟩|⟨g,h⟩)
 all_goals (cases h<;>(simp only[go_sem,seval,Z2, *];exact⟨_,rfl⟩))
end Go.Z
end
