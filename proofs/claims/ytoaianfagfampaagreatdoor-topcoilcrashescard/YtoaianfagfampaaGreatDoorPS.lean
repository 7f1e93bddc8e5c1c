/- Chapter 10. -/
import Derived.Test.YtoaianfagfampaaGreatDoorW12
import Derived.Test.YtoaianfagfampaaGreatDoorLA
set_option linter.all false
set_option maxRecDepth 100000
set_option maxHeartbeats 4000000
noncomputable section
open Bool renaming false->Eb,true->Ep,false_beq->E8,not_false->E9,and_self->G0,true_beq->G1,not_true->G4,not_not->G5
open Option renaming some->Eg,none->Eh
open Nat renaming le_refl->En,ble->E3,blt->E4
namespace Go.Z
open Go Go.Abs Go.W
def yU (V:Int×aj):Option ((Int×aj)⊕((Int×aj))):=
 cond (decide (0<V.1))
  (qc (ol V.1 10) fun v21=>
  qc (kF ((Utf8.encode (qf .i32 (qf .i64 (48+v21)))).data.toList) V.2) fun v23=>
  qc (yR .i64 V.1 10) fun v25=>
  Eg (.inl (v25,v23)))
  (Eg (.inr (V.1,V.2)))
def NE (V:Int×aj):bj:=⟨[(0,Iv V.1,Eb),(3,.str V.2,Eb)],[]⟩
def U1 (d:(Int×aj)):jc×bj:=(.exit 0,⟨[(0,Iv d.1,Eb),(3,.str d.2,Eb),(18,.bool Eb,Eb)],[]⟩)
theorem j1y (V:Int×aj)(r)(h:yU V=Eg r):js pr FP (NE) (U1) V r:=by
 unfold yU at h;rcases qe h with⟨sE,h⟩|⟨sE,h⟩
 .obtain⟨v21,pB,h⟩:=qd h;obtain⟨v23,vR,h⟩:=qd h;obtain⟨v25,rj,h⟩:=qd h;cases h;exact z7 (bN:=⟨[(0,Iv v25,Eb),(3,.str v23,Eb)],[]⟩) (by simp only[go_sem,seval,FP,NE,sE,FH pB,rh vR,q9t rj]<;>rfl) (yv (En _))
 .cases h;exact qw (by simp only[go_sem,seval,FP,NE,sE,U1]<;>rfl)
theorem j1i {V:Int×aj}{d}(h:bu (yU) V=Eg d):X pr (.loop FP) (NE V)=Eg (U1 d):=nC (j1y) (fun d hh=>by cases hh) h
def f97 (O:Int):Option aj:=
 cond (decide (O<0))
  (Eh)
  (qc (ol O 10) fun v2=>
  qc (yR .i64 O 10) fun v4=>
  qc (bu (yU) (v4,(Utf8.encode (qf .i32 (qf .i64 (48+v2)))).data.toList)) fun d27=>
  Eg d27.2)
theorem W97 {O:Int}{r}(h:f97 O=Eg r):ae pr (X pr) 97 [Iv O]=Eg (.str r,Eb):=by
 unfold f97 at h;rcases qe h with⟨Y,h⟩|⟨Y,h⟩
 .cases h
 .obtain⟨v2,h3,h⟩:=qd h;obtain⟨v4,h5,h⟩:=qd h;obtain⟨d27,vf,h⟩:=qd h;have s6:X pr (.loop FP) ⟨[(0,Iv v4,Eb),(3,.str ((Utf8.encode (qf .i32 (qf .i64 (48+v2)))).data.toList),Eb)],[]⟩=Eg (.exit 0,⟨[(0,Iv d27.1,Eb),(3,.str d27.2,Eb),(18,.bool Eb,Eb)],[]⟩):=j1i vf;have Q:d27.2=r:=Eg.inj h;subst Q
  have this:∃hh,ai pr (X pr) 97 [Iv O] []=Eg (.str d27.2,Eb,hh):=by
   rw[qh (show pr.bn 97=Eg U2 from rfl) (by simp)];simp only[go_sem,seval,U2,Y,FH h3,q9t h5,s6];exact⟨_,rfl⟩
  obtain⟨hh,this⟩:=this;exact jo rfl this (by first|rfl|simp only[go_sem,seval]) (by first|rfl|simp only[go_sem,seval])
def f28 (O:Int):Option aj:=
 qc (f97 O) fun v1=>
 Eg v1
theorem U3 {O:Int}{r}(h:f28 O=Eg r):ae pr (X pr) 28 [Iv O]=Eg (.str r,Eb):=by
 unfold f28 at h;refine zd U4 ?_
 repeat' first|(replace h:=qd h;obtain⟨d,g,h⟩:=h;with_reducible first|replace g:=W97 g|skip)|(replace h:=qe h;rcases h with⟨g,h⟩|⟨g,h⟩)
 all_goals (cases h<;>(simp only[go_sem,seval,U4, *];exact⟨_,rfl⟩))
def yV (O:GEv)(V:aj×Int):Option ((aj×Int)⊕((aj×Int))):=
 cond (decide (V.2<((O.names.getD []).length:Int)))
  (qc (kF V.1 ([32]:aj)) fun v22=>
  qc (qo (O.names.getD []) V.2) fun v24=>
  qc (kF v22 v24) fun v26=>
  Eg (.inl (v26,qf .i64 (V.2+1))))
  (Eg (.inr (V.1,V.2)))
def NF (O:GEv)(V:aj×Int):bj:=⟨[(1,.aq (aE O),Eb),(3,.str V.1,Eb),(4,Iv V.2,Eb)],[]⟩
def U5 (O:GEv)(d:(aj×Int)):jc×bj:=(.exit 0,⟨[(1,.aq (aE O),Eb),(3,.str d.1,Eb),(4,Iv d.2,Eb),(17,.bool Eb,Eb)],[]⟩)
theorem jz4 (O:GEv)(V:aj×Int)(r)(h:yV O V=Eg r):js pr FQ (NF O) (U5 O) V r:=by
 unfold yV at h;rcases qe h with⟨sF,h⟩|⟨sF,h⟩
 .obtain⟨v22,sG,h⟩:=qd h;obtain⟨v24,vS,h⟩:=qd h;obtain⟨v26,wO,h⟩:=qd h;cases h;exact z7 (bN:=⟨[(1,.aq (aE O),Eb),(3,.str v26,Eb),(4,Iv (qf .i64 (V.2+1)),Eb)],[]⟩) (by simp only[go_sem,seval,FQ,NF,sF,rh sG,jg vS,rh wO]<;>rfl) (yv (En _))
 .cases h;exact qw (by simp only[go_sem,seval,FQ,NF,sF,U5]<;>rfl)
theorem jyj (O:GEv){V:aj×Int}{d}(h:bu (yV O) V=Eg d):X pr (.loop FQ) (NF O V)=Eg (U5 O d):=nC (jz4 O) (fun d hh=>by cases hh) h
def wP (O:GEv)(s1:aj×Int):Option ((aj×Int)⊕((aj×Int))):=
 cond (decide (s1.2<((O.values.getD []).length:Int)))
  (qc (kF s1.1 ([32]:aj)) fun v49=>
  qc (qo (O.values.getD []) s1.2) fun v51=>
  qc (f28 v51) fun v53=>
  qc (kF v49 v53) fun U6=>
  Eg (.inl (U6,qf .i64 (s1.2+1))))
  (Eg (.inr (s1.1,s1.2)))
def NG (O:GEv)(s1:aj×Int):bj:=⟨[(1,.aq (aE O),Eb),(3,.str s1.1,Eb),(5,Iv s1.2,Eb)],[]⟩
def U7 (O:GEv)(d:(aj×Int)):jc×bj:=(.exit 2,⟨[(1,.aq (aE O),Eb),(3,.str d.1,Eb),(5,Iv d.2,Eb),(32,.bool Eb,Eb)],[]⟩)
theorem jy3 (O:GEv)(s1:aj×Int)(r)(h:wP O s1=Eg r):js pr FR (NG O) (U7 O) s1 r:=by
 unfold wP at h;rcases qe h with⟨U8,h⟩|⟨U8,h⟩
 .obtain⟨v49,h50,h⟩:=qd h;obtain⟨v51,h52,h⟩:=qd h;obtain⟨v53,h54,h⟩:=qd h;have U9:ae pr (X pr) 28 [Iv v51]=Eg (.str v53,Eb):=U3 h54;obtain⟨U6,NH,h⟩:=qd h;cases h;exact z7 (bN:=⟨[(1,.aq (aE O),Eb),(3,.str U6,Eb),(5,Iv (qf .i64 (s1.2+1)),Eb)],[]⟩) (by simp only[go_sem,seval,FR,NG,U8,rh h50,jg h52,U9,rh NH]<;>rfl) (yv (En _))
 .cases h;exact qw (by simp only[go_sem,seval,FR,NG,U8,U7]<;>rfl)
theorem j07 (O:GEv){s1:aj×Int}{d}(h:bu (wP O) s1=Eg d):X pr (.loop FR) (NG O s1)=Eg (U7 O d):=nC (jy3 O) (fun d hh=>by cases hh) h
def f27 (O:GEv):Option aj:=
 qc (f28 O.number) fun v1=>
 qc (kF v1 ([32]:aj)) fun v3=>
 qc (kF v3 O.kind) fun v5=>
 qc (bu (yV O) (v5,0)) fun d28=>
 qc (bu (wP O) (d28.1,0)) fun d57=>
 Eg d57.1
theorem W27 {O:GEv}{r}(h:f27 O=Eg r):ae pr (X pr) 27 [aE O]=Eg (.str r,Eb):=by
 unfold f27 at h;obtain⟨v1,I,h⟩:=qd h;have iY:ae pr (X pr) 28 [Iv O.number]=Eg (.str v1,Eb):=U3 I;obtain⟨v3,h4,h⟩:=qd h;obtain⟨v5,h6,h⟩:=qd h;obtain⟨d28,BK,h⟩:=qd h;have Va:X pr (.loop FQ) ⟨[(1,.aq (aE O),Eb),(3,.str v5,Eb),(4,Iv 0,Eb)],[]⟩=Eg (.exit 0,⟨[(1,.aq (aE O),Eb),(3,.str d28.1,Eb),(4,Iv d28.2,Eb),(17,.bool Eb,Eb)],[]⟩):=jyj O BK;obtain⟨d57,h58,h⟩:=qd h;have Vb:X pr (.loop FR) ⟨[(1,.aq (aE O),Eb),(3,.str d28.1,Eb),(5,Iv 0,Eb)],[]⟩=Eg (.exit 2,⟨[(1,.aq (aE O),Eb),(3,.str d57.1,Eb),(5,Iv d57.2,Eb),(32,.bool Eb,Eb)],[]⟩):=j07 O h58;have Q:d57.1=r:=Eg.inj h;subst Q
 have this:∃hh,ai pr (X pr) 27 [aE O] []=Eg (.str d57.1,Eb,hh):=by
  rw[qh (show pr.bn 27=Eg Vc from rfl) (by simp)];simp only[go_sem,seval,Vc,iY,rh h4,rh h6,Va,Vb];exact⟨_,rfl⟩
 obtain⟨hh,this⟩:=this;exact jo rfl this (by first|rfl|simp only[go_sem,seval]) (by first|rfl|simp only[go_sem,seval])
end Go.Z
namespace Go.Z
open Go Go.Abs Go.Proofs
abbrev Vd:LB:=NA
def aB:j8:={ bn:=pr.bn,di:=Vd,dO:=UZ,maps:=JF }
theorem aF:gm pr aB where
 maps:=fun k es h=>h
 bn:=fun k b hb=>.inl hb
 dO:=by intro k F hn hF;cases hF
 di:=by
  intro k
  cases hk:Vd k with
  |none=>exact .inr ⟨hk,rfl⟩
  |some t=>
   refine .inl ⟨t,hk,fun args r h=>?_⟩
   have hn:pr.bn k=Eh:=jhm (by
    cases G:isS k with
    |true=>rfl
    |false=>
     simp only[isS,Bool.or_eq_false_iff]at G;obtain⟨⟨⟨⟨Y,I⟩,h3⟩,h4⟩,h5⟩:=G;simp only[Vd,NA,Y,I,h3,h4,h5,cond_false]at hk
     cases hk)
   unfold ae ai at h;rw[hn]at h;cases h
theorem okS:ct Tryz.prog aB where
 fn:=s5.fn
 mf:=okL.mf
 mixed:=s5.mixed
 oM:=okL.oM
 maps:=s5.maps
theorem FT {k f args v}(hp:aB.di k=Eg f)(h:f args=Eg (v,Eb))(hv:lV v=Ep):ae aB (X aB) k args=Eg (v,Eb):=by
 unfold ae;rw[hp];simp only[h,hv,cond_true]
def f235 (s:aj):Int->Option Int
 | .ofNat n=>Eg (FK (UInt8.ofNat n) s 0)|_=>Eh
theorem zan {s:aj}{c r:Int}(h:f235 s c=Eg r):ae aB (X aB) 235 [.str s,.int .u8 c]=Eg (.int .i64 r,Eb):=by
 cases c with
 |ofNat n=>cases h;exact FT (f:=Nz) rfl rfl rfl|negSucc n=>cases h
theorem q26:∀ (l:List aj),qt 0 (l.map .str)=Ep
 | []=>rfl
 |x::l=>by simp only[List.map_cons,qt,below,q26 l,G0]
def f19 (s:aj):aj->Option (ak aj)
 | [c]=>bif E4 s.length 4294967281 then Eg (Eg (eR c s))else Eh|_=>Eh
theorem BL {s p:aj}{r}(h:f19 s p=Eg r):ae aB (X aB) 19 [.str s,.str p]=Eg (sl 1 jf r,Eb):=by
 cases p with
 |nil=>cases h
 |cons c t=>
  cases t with
  |cons _ _=>cases h
  |nil=>
   simp only[f19]at h
   cases hb:E4 s.length 4294967281 with
   |false=>rw[hb]at h;cases h
   |true=>
    rw[hb]at h;cases h;exact FT (f:=JD) rfl (by simp only[JD,hb,cond_true];rfl) (by show qt 0 ((eR c s).map .str)=Ep;exact q26 _)
theorem q0h:∀ (l:List aj),FM (l.map .str)=Eg l
 | []=>rfl
 |x::l=>by simp only[List.map_cons,FM,q0h l]
def f29:ak aj->aj->Option aj
 |none,_=>Eg []|some (s::ss),p=>bif E3 (s::ss).length 100000&&E3 (p.intercalate (s::ss)).length 100000000 then Eg (p.intercalate (s::ss))else Eh|some [],_=>Eh
theorem FU {l:ak aj}{p:aj}{r}(h:f29 l p=Eg r):ae aB (X aB) 29 [sl 1 jf l,.str p]=Eg (.str r,Eb):=by
 cases l with
 |none=>cases h;exact FT (f:=t99) rfl rfl rfl
 |some l=>
  cases l with
  |nil=>cases h
  |cons s ss=>
   simp only[f29]at h
   cases hb:(E3 (s::ss).length 100000&&E3 (p.intercalate (s::ss)).length 100000000)with
   |false=>rw[hb]at h;cases h
   |true=>
    rw[hb]at h;cases h;refine FT (f:=t99) rfl ?_ rfl;show t99 [.list Eb 1 ((s::ss).map .str),.str p]=_;simp only[t99,q0h,hb,cond_true]
def f26:Int->Option aj
 | .ofNat n=>bif E4 n 1000000000000000000 then Eg (FL 18 n [])else Eh|_=>Eh
theorem JH {n:Int}{r}(h:f26 n=Eg r):ae aB (X aB) 26 [.int .i64 n]=Eg (.str r,Eb):=by
 cases n with
 |negSucc n=>cases h
 |ofNat n=>
  simp only[f26]at h
  cases hb:E4 n 1000000000000000000 with
  |false=>rw[hb]at h;cases h|true=>rw[hb]at h;cases h;exact FT (f:=yS) rfl (by simp only[yS,hb,cond_true]) rfl
theorem j84 (hp:qi){n:Int}{r}(h:f26 n=Eg r):ai aB (X aB) 26 [.int .i64 n] hp=Eg (.str r,Eb,hp):=by
 have hn:pr.bn 26=Eh:=jhm (k:=26) rfl;have jD:aB.bn 26=Eh:=hn;unfold ai;rw[jD,show aB.dO 26=Eg FO from rfl]
 cases n with
 |negSucc n=>cases h
 |ofNat n=>
  simp only[f26]at h
  cases hb:E4 n 1000000000000000000 with
  |false=>rw[hb]at h;cases h|true=>rw[hb]at h;cases h;show FO _ _=_;simp only[FO,yS,hb,cond_true,qt,below,G0]
def f175 (s:aj):Int->Option aj
 | .ofNat c=>bif E3 c 100000&&E3 (s.length*c) 100000 then Eg (Lib.repeatL s c)else Eh|_=>Eh
theorem j4w {s:aj}{c:Int}{r}(h:f175 s c=Eg r):ae aB (X aB) 175 [.str s,.int .i64 c]=Eg (.str r,Eb):=by
 cases c with
 |negSucc n=>cases h
 |ofNat c=>
  simp only[f175]at h
  cases hb:(E3 c 100000&&E3 (s.length*c) 100000)with
  |false=>rw[hb]at h;cases h|true=>rw[hb]at h;cases h;exact FT (f:=JE) rfl (by simp only[JE,hb,cond_true]) rfl
end Go.Z
namespace Go.Z
open Go Go.Abs Go.W
def f198 (O:aj)(J:aj):Option Int:=
 cond (decide ((J.length:Int)=0))
  (Eg 0)
  (cond (decide (J=O))
   (Eg 0)
   (cond (decide ((J.length:Int)=1))
    (qc (qo J 0) fun v4=>
    qc (f235 O (v4.toNat:Int)) fun v6=>
    Eg v6)
    (cond (decide ((O.length:Int)<=(J.length:Int)))
     (Eg (-1))
     (Eh))))
theorem j8d {O:aj}{J:aj}{r}(h:f198 O J=Eg r):ae aB (X aB) 198 [.str O,.str J]=Eg (Iv r,Eb):=by
 unfold f198 at h;refine zd BM ?_
 repeat' first|(replace h:=qd h;obtain⟨d,g,h⟩:=h;with_reducible first|replace g:=zan g|skip)|(replace h:=qe h;rcases h with⟨g,h⟩|⟨g,h⟩)
 all_goals (cases h<;>(simp only[go_sem,seval,BM,T0, *];exact⟨_,rfl⟩))
def f176 (O:aj)(J:aj):Option (aj×aj×Bool):=
 qc (f198 O J) fun v1=>
 cond (decide (0<=v1))
  (qc (jN O Eh (Eg v1)) fun v4=>
  qc (jN O (Eg (qf .i64 (v1+(J.length:Int)))) Eh) fun v6=>
  Eg (v4,v6,Ep))
  (Eg (O,[],Eb))
theorem j5q {O:aj}{J:aj}{r}(h:f176 O J=Eg r):ae aB (X aB) 176 [.str O,.str J]=Eg (.bq [.str r.1,.str r.2.1,.bool r.2.2],Eb):=by
 unfold f176 at h;obtain⟨v1,I,h⟩:=qd h;have iY:ae aB (X aB) 198 [.str O,.str J]=Eg (Iv v1,Eb):=j8d I;rcases qe h with⟨h3,h⟩|⟨h3,h⟩
 .obtain⟨v4,h5,h⟩:=qd h;obtain⟨v6,h7,h⟩:=qd h;have Q:(v4,v6,Ep)=r:=Eg.inj h;subst Q
  have this:∃hh,ai aB (X aB) 176 [.str O,.str J] []=Eg (.bq [.str v4,.str v6,.bool Ep],Eb,hh):=by
   rw[qh (show aB.bn 176=Eg s7 from rfl) (by simp)];simp only[go_sem,seval,s7,iY,h3,BI h5,vb h7];exact⟨_,rfl⟩
  obtain⟨hh,this⟩:=this;exact jo rfl this (by first|rfl|simp only[go_sem,seval]) (by first|rfl|simp only[go_sem,seval])
 .have Q:(O,[],Eb)=r:=Eg.inj h;subst Q
  have this:∃hh,ai aB (X aB) 176 [.str O,.str J] []=Eg (.bq [.str O,.str [],.bool Eb],Eb,hh):=by
   rw[qh (show aB.bn 176=Eg s7 from rfl) (by simp)];simp only[go_sem,seval,s7,iY,h3];exact⟨_,rfl⟩
  obtain⟨hh,this⟩:=this;exact jo rfl this (by first|rfl|simp only[go_sem,seval]) (by first|rfl|simp only[go_sem,seval])
def f103 (O:aj)(J:aj):Option (aj×aj×Bool):=
 qc (f176 O J) fun v1=>
 Eg (v1.1,v1.2.1,v1.2.2)
theorem jvl {O:aj}{J:aj}{r}(h:f103 O J=Eg r):ae aB (X aB) 103 [.str O,.str J]=Eg (.bq [.str r.1,.str r.2.1,.bool r.2.2],Eb):=by
 unfold f103 at h;refine zd BN ?_
 repeat' first|(replace h:=qd h;obtain⟨d,g,h⟩:=h;with_reducible first|replace g:=j5q g|skip)|(replace h:=qe h;rcases h with⟨g,h⟩|⟨g,h⟩)
 all_goals (cases h<;>(simp only[go_sem,seval,BN, *];exact⟨_,rfl⟩))
def yW (O:aj)(V:Int×Int):Option ((Int×Int)⊕((Int×Int))):=
 cond (decide (V.2<(O.length:Int)))
  (qc (qo O V.2) fun v12=>
  qc (ol (qf .i64 ((qf .i64 (313*V.1))+(qf .i64 (v12.toNat:Int)))) 9999889) fun dm=>
  Eg (.inl (dm,qf .i64 (V.2+1))))
  (Eg (.inr (V.1,V.2)))
def NI (O:aj)(V:Int×Int):bj:=⟨[(0,.str O,Eb),(3,Iv V.1,Eb),(7,Iv (O.length:Int),Eb),(8,Iv V.2,Eb)],[]⟩
def Ve (O:aj)(d:(Int×Int)):jc×bj:=(.exit 0,⟨[(0,.str O,Eb),(3,Iv d.1,Eb),(7,Iv (O.length:Int),Eb),(8,Iv d.2,Eb),(9,.bool Eb,Eb)],[]⟩)
theorem jue (O:aj)(V:Int×Int)(r)(h:yW O V=Eg r):js aB FV (NI O) (Ve O) V r:=by
 unfold yW at h;rcases qe h with⟨gA,h⟩|⟨gA,h⟩
 .obtain⟨v12,ib,h⟩:=qd h;obtain⟨dm,qW,h⟩:=qd h;cases h;exact z7 (bN:=⟨[(0,.str O,Eb),(3,Iv dm,Eb),(7,Iv (O.length:Int),Eb),(8,Iv (qf .i64 (V.2+1)),Eb)],[]⟩) (by simp only[go_sem,seval,FV,NI,gA,Bb ib,FH qW]<;>rfl) (yv (En _))
 .cases h;exact qw (by simp only[go_sem,seval,FV,NI,gA,Ve]<;>rfl)
theorem jvm (O:aj){V:Int×Int}{d}(h:bu (yW O) V=Eg d):X aB (.loop FV) (NI O V)=Eg (Ve O d):=nC (jue O) (fun d hh=>by cases hh) h
def f102 (O:aj):Option aj:=
 qc (bu (yW O) (1,0)) fun d16=>
 qc (f26 d16.1) fun eU=>
 qc (f175 ([48]:aj) (qf .i64 (7-(eU.length:Int)))) fun v20=>
 qc (kF v20 eU) fun v22=>
 Eg v22
theorem jr3 {O:aj}{r}(h:f102 O=Eg r):ae aB (X aB) 102 [.str O]=Eg (.str r,Eb):=by
 unfold f102 at h;obtain⟨d16,uk,h⟩:=qd h;have Vf:X aB (.loop FV) ⟨[(0,.str O,Eb),(3,Iv 1,Eb),(7,Iv (O.length:Int),Eb),(8,Iv 0,Eb)],[]⟩=Eg (.exit 0,⟨[(0,.str O,Eb),(3,Iv d16.1,Eb),(7,Iv (O.length:Int),Eb),(8,Iv d16.2,Eb),(9,.bool Eb,Eb)],[]⟩):=jvm O uk;obtain⟨eU,xS,h⟩:=qd h;have Vg:ae aB (X aB) 26 [Iv d16.1]=Eg (.str eU,Eb):=JH xS;obtain⟨v20,sF,h⟩:=qd h;have wQ:ae aB (X aB) 175 [.str ([48]:aj),Iv (qf .i64 (7-(eU.length:Int)))]=Eg (.str v20,Eb):=j4w sF;obtain⟨v22,sG,h⟩:=qd h;have Q:v22=r:=Eg.inj h;subst Q
 have this:∃hh,ai aB (X aB) 102 [.str O] []=Eg (.str v22,Eb,hh):=by
  rw[qh (show aB.bn 102=Eg BO from rfl) (by simp)];simp only[go_sem,seval,BO,Vf,Vg,wQ,rh sG];exact⟨_,rfl⟩
 obtain⟨hh,this⟩:=this;exact jo rfl this (by first|rfl|simp only[go_sem,seval]) (by first|rfl|simp only[go_sem,seval])
end Go.Z
namespace Go.Z
open Go Go.Abs Go.W
def wR (O:aj)(V:Int×Nat):Option ((Int×Nat)⊕(Nat⊕(Int×Nat))):=
 cond (decide (V.2<O.length))
  (cond (decide (((ql O V.2).1:Int)<48))
   (Eg (.inr (.inl (V.2+(ql O V.2).2))))
   (cond (decide (57<((ql O V.2).1:Int)))
    (Eg (.inr (.inl (V.2+(ql O V.2).2))))
    (Eg (.inl (qf .i64 ((qf .i64 (10*V.1))+(qf .i64 (qf .i32 (((ql O V.2).1:Int)-48)))),V.2+(ql O V.2).2)))))
  (Eg (.inr (.inr (V.1,V.2))))
def NJ (O:aj)(V:Int×Nat):bj:=⟨[(4,Iv V.1,Eb),(25,.ptr 0 0,Eb)],[.iter O V.2]⟩
def NK (O:aj):Nat⊕(Int×Nat)->jc×bj
 | .inl d=>(.ret,⟨[(2,Iv 0,Eb),(3,.bool Eb,Eb)],[.iter O d]⟩)| .inr d=>(.exit 0,⟨[(4,Iv d.1,Eb),(25,.ptr 0 0,Eb),(26,.bq [.bool Eb],Eb),(27,.bool Eb,Eb)],[.iter O d.2]⟩)
theorem jya (O:aj)(V:Int×Nat)(r)(h:wR O V=Eg r):js aB BP (NJ O) (NK O) V r:=by
 unfold wR at h
 repeat' first|(replace h:=qe h;rcases h with⟨g,h⟩|⟨g,h⟩)
 all_goals (cases h<;>((first|refine qw ?_|refine jy ?_);simp only[go_sem,seval,BP,NJ,xY,NK, *]<;>rfl))
theorem jzh (O:aj){V:Int×Nat}{d}(h:bu (wR O) V=Eg d):X aB (.loop BP) (NJ O V)=Eg (NK O d):=nC (jya O) (fun d=>by rcases d with d|d<;>(intro hh;cases hh)) h
def JI (O:aj)(V:Int×Nat):Option ((Int×Nat)⊕(Nat⊕(Int×Nat))):=
 cond (decide (V.2<O.length))
  (cond (decide (((ql O V.2).1:Int)<48))
   (Eg (.inr (.inl (V.2+(ql O V.2).2))))
   (cond (decide (57<((ql O V.2).1:Int)))
    (Eg (.inr (.inl (V.2+(ql O V.2).2))))
    (Eg (.inl (qf .i64 ((qf .i64 (10*V.1))+(qf .i64 (qf .i32 (((ql O V.2).1:Int)-48)))),V.2+(ql O V.2).2)))))
  (Eg (.inr (.inr (V.1,V.2))))
def NL (O:aj)(V:Int×Nat):bj:=⟨[(4,Iv V.1,Eb),(25,.ptr 0 0,Eb)],[.iter O V.2]⟩
def NM (O:aj):Nat⊕(Int×Nat)->jc×bj
 | .inl d=>(.ret,⟨[(2,Iv 0,Eb),(3,.bool Eb,Eb)],[.iter O d]⟩)| .inr d=>(.exit 0,⟨[(4,Iv d.1,Eb),(25,.ptr 0 0,Eb),(26,.bq [.bool Eb],Eb),(27,.bool Eb,Eb)],[.iter O d.2]⟩)
theorem jtj (O:aj)(V:Int×Nat)(r)(h:JI O V=Eg r):js aB BP (NL O) (NM O) V r:=by
 unfold JI at h
 repeat' first|(replace h:=qe h;rcases h with⟨g,h⟩|⟨g,h⟩)
 all_goals (cases h<;>((first|refine qw ?_|refine jy ?_);simp only[go_sem,seval,BP,NL,xY,NM, *]<;>rfl))
theorem jrr (O:aj){V:Int×Nat}{d}(h:bu (JI O) V=Eg d):X aB (.loop BP) (NL O V)=Eg (NM O d):=nC (jtj O) (fun d=>by rcases d with d|d<;>(intro hh;cases hh)) h
def f89 (O:aj):Option (Int×Bool):=
 cond (decide (O=[]))
  (Eg (0,Eb))
  (cond (decide (9<(O.length:Int)))
   (Eg (0,Eb))
   (cond (decide (1<(O.length:Int)))
    (qc (qo O 0) fun v4=>
    cond (decide ((v4.toNat:Int)=48))
     (Eg (0,Eb))
     (qc (bu (wR O) (0,0)) fun d16=>match d16 with
      | .inl d18=>
       Eg (0,Eb)
      | .inr d19=>
       Eg (d19.1,Ep)))
    (qc (bu (JI O) (0,0)) fun d29=>match d29 with
     | .inl d31=>
      Eg (0,Eb)
     | .inr d32=>
      Eg (d32.1,Ep))))
theorem W89 {O:aj}{r}(h:f89 O=Eg r):ae aB (X aB) 89 [.str O]=Eg (.bq [Iv r.1,.bool r.2],Eb):=by
 unfold f89 at h;refine zd Vh ?_
 repeat' first|(replace h:=qd h;obtain⟨d,g,h⟩:=h;with_reducible first|(replace g:=jzh O g;rcases d with d|d<;>dsimp only[NJ,NK,zp]at g h)|(replace g:=jrr O g;rcases d with d|d<;>dsimp only[NL,NM,zp]at g h)|skip)|(replace h:=qe h;rcases h with⟨g,h⟩|⟨g,h⟩)
 all_goals (cases h<;>(simp only[go_sem,seval,Vh,T0, *];exact⟨_,rfl⟩))
end Go.Z
namespace Go.Z
open Go Go.Abs Go.W
def f178 (O:Int):Option Bool:=
 cond (decide (O<48))
  (Eg Ep)
  (Eg (decide (57<O)))
theorem jry (hp:qi){O:Int}{r}(h:f178 O=Eg r):ai aB (X aB) 178 [.int .i32 O] hp=Eg (.bool r,Eb,hp):=by
 unfold f178 at h;rw[qh (show aB.bn 178=Eg BQ from rfl) (by simp)]
 repeat' first|(replace h:=qe h;rcases h with⟨g,h⟩|⟨g,h⟩)
 all_goals (cases h<;>(simp only[go_sem,seval,BQ, *]<;>rfl))
def BR (O:aj)(a2:Bool):Option (Option (Bool×Int×Nat)⊕((Int×Nat)⊕(Bool×Nat))):=
 cond (decide (0<O.length))
  (qc (f178 ((ql O 0).1:Int)) fun s9=>
  cond s9
   (cond a2
    (Eg (.inr (.inl ((0:Int),0+(ql O 0).2))))
    (Eg (.inl (Eg (Eb,(0:Int),0+(ql O 0).2)))))
   (cond a2
    (Eg (.inl (Eg (Ep,(0:Int),0+(ql O 0).2))))
    (Eg (.inr (.inl ((0:Int),0+(ql O 0).2))))))
  (Eg (.inr (.inr (a2,0))))
def wS (O:aj)(a2:Bool)(V:Bool×Int×Nat):Option (Option (Bool×Int×Nat)⊕((Int×Nat)⊕(Bool×Nat))):=
 cond (decide (V.2.2<O.length))
  (qc (f178 ((ql O V.2.2).1:Int)) fun et=>
  cond et
   (cond V.1
    (Eg (.inr (.inl ((V.2.2:Int),V.2.2+(ql O V.2.2).2))))
    (Eg (.inl (Eg (Eb,(V.2.2:Int),V.2.2+(ql O V.2.2).2)))))
   (cond V.1
    (Eg (.inl (Eg (Ep,(V.2.2:Int),V.2.2+(ql O V.2.2).2))))
    (Eg (.inr (.inl ((V.2.2:Int),V.2.2+(ql O V.2.2).2))))))
  (Eg (.inr (.inr (V.1,V.2.2))))
def JJ (O:aj)(a2:Bool):Option (Bool×Int×Nat)->Option (Option (Bool×Int×Nat)⊕((Int×Nat)⊕(Bool×Nat)))
 |none=>BR O a2|some x=>wS O a2 x
def Vi (O:aj)(a2:Bool)(V:Bool×Int×Nat):bj:=⟨[(1,.fn (.func 178) [] [],Eb),(2,.bool V.1,Eb),(7,Iv V.2.1,Eb),(10,.ptr 0 0,Eb),(19,.bool Eb,Eb)],[.iter O V.2.2]⟩
def BS (O:aj)(a2:Bool):Option (Bool×Int×Nat)->bj
 |none=>⟨[(1,.fn (.func 178) [] [],Eb),(2,.bool a2,Eb),(10,.ptr 0 0,Eb)],[.iter O 0]⟩|some x=>Vi O a2 x
def BT (O:aj)(a2:Bool):(Int×Nat)⊕(Bool×Nat)->jc×bj
 | .inl d=>(.ret,⟨[(6,Iv d.1,Eb)],[.iter O d.2]⟩)| .inr d=>(.exit 0,⟨[(1,.fn (.func 178) [] [],Eb),(2,.bool d.1,Eb),(10,.ptr 0 0,Eb),(11,.bq [.bool Eb],Eb),(12,.bool Eb,Eb)],[.iter O d.2]⟩)
theorem jna (O:aj)(a2:Bool)(r)(h:BR O a2=Eg r):js aB BU (BS O a2) (BT O a2) Eh r:=by
 unfold BR at h
 repeat' first|(replace h:=qd h;obtain⟨d,g,h⟩:=h;with_reducible first|replace g:=jry [.iter O (0+(ql O 0).2)] g|skip)|(replace h:=qe h;rcases h with⟨g,h⟩|⟨g,h⟩)
 all_goals (cases h<;>((first|refine qw ?_|refine jy ?_);simp only[go_sem,seval,BU,BS,Vi,xY,G1,E8,G4,E9,G5,BT, *]<;>rfl))
theorem joz (O:aj)(a2:Bool)(V:Bool×Int×Nat)(r)(h:wS O a2 V=Eg r):js aB BU (BS O a2) (BT O a2) (Eg V) r:=by
 unfold wS at h
 repeat' first|(replace h:=qd h;obtain⟨d,g,h⟩:=h;with_reducible first|replace g:=jry [.iter O (V.2.2+(ql O V.2.2).2)] g|skip)|(replace h:=qe h;rcases h with⟨g,h⟩|⟨g,h⟩)
 all_goals (cases h<;>((first|refine qw ?_|refine jy ?_);simp only[go_sem,seval,BU,BS,Vi,xY,G1,E8,G4,E9,G5,BT, *]<;>rfl))
theorem ju2 (O:aj)(a2:Bool):∀(x:Option (Bool×Int×Nat)) (r) (h:JJ O a2 x=Eg r),js aB BU (BS O a2) (BT O a2) x r
 |none,r,h=>jna O a2 r h|some x,r,h=>joz O a2 x r h
theorem juu (O:aj)(a2:Bool){V:Option (Bool×Int×Nat)}{d}(h:bu (JJ O a2) V=Eg d):X aB (.loop BU) (BS O a2 V)=Eg (BT O a2 d):=nC (ju2 O a2) (fun d=>by rcases d with d|d<;>(intro hh;cases hh)) h
def f250 (O:aj)(a2:Bool):Option Int:=
 qc (bu (JJ O a2) Eh) fun d40=>match d40 with
  | .inl d42=>
   Eg d42.1
  | .inr d43=>
   Eg (-1)
theorem zbe {O:aj}{a2:Bool}{r}(h:f250 O a2=Eg r):ae aB (X aB) 250 [.str O,.fn (.func 178) [] [],.bool a2]=Eg (Iv r,Eb):=by
 unfold f250 at h;refine zd BV ?_
 repeat' first|(replace h:=qd h;obtain⟨d,g,h⟩:=h;with_reducible first|(replace g:=juu O a2 g;rcases d with d|d<;>dsimp only[BS,BT,zp]at g h)|skip)|(replace h:=qe h;rcases h with⟨g,h⟩|⟨g,h⟩)
 all_goals (cases h<;>(simp only[go_sem,seval,BV, *];exact⟨_,rfl⟩))
def f230 (O:aj):Option Int:=
 qc (f250 O Ep) fun v1=>
 Eg v1
theorem j76 {O:aj}{r}(h:f230 O=Eg r):ae aB (X aB) 230 [.str O,.fn (.func 178) [] []]=Eg (Iv r,Eb):=by
 unfold f230 at h;refine zd BW ?_
 repeat' first|(replace h:=qd h;obtain⟨d,g,h⟩:=h;with_reducible first|replace g:=zbe g|skip)|(replace h:=qe h;rcases h with⟨g,h⟩|⟨g,h⟩)
 all_goals (cases h<;>(simp only[go_sem,seval,BW, *];exact⟨_,rfl⟩))
def f177 (O:aj):Option Bool:=
 qc (f230 O) fun v1=>
 Eg (decide (0<=v1))
theorem zao {O:aj}{r}(h:f177 O=Eg r):ae aB (X aB) 177 [.str O,.fn (.func 178) [] []]=Eg (.bool r,Eb):=by
 unfold f177 at h;refine zd BX ?_
 repeat' first|(replace h:=qd h;obtain⟨d,g,h⟩:=h;with_reducible first|replace g:=j76 g|skip)|(replace h:=qe h;rcases h with⟨g,h⟩|⟨g,h⟩)
 all_goals (cases h<;>(simp only[go_sem,seval,BX, *];exact⟨_,rfl⟩))
def yX (O:ak Int)(V:(ak aj)×Int×Bool):Option (((ak aj)×Int×Bool)⊕(((ak aj)×Bool×Int))):=
 cond (decide (V.2.1<((O.getD []).length:Int)))
  (qc (qo (O.getD []) V.2.1) fun eU=>
  qc (f26 eU) fun v20=>
  cond V.2.2
   (qc (bB V.1 [v20]) fun v23=>
   Eg (.inl (v23,qf .i64 (V.2.1+1),Ep)))
   (cond V.1.isNone
    (qc (bB V.1 [v20]) fun v26=>
    Eg (.inl (v26,qf .i64 (V.2.1+1),Ep)))
    (Eh)))
  (Eg (.inr (V.1,V.2.2,V.2.1)))
def NN (O:ak Int)(V:(ak aj)×Int×Bool):bj:=⟨[(1,.fn (.func 26) [] [],Eb),(5,sl 1 jf V.1,V.2.2),(8,sl 1 zg O,Eb),(9,Lv O,Eb),(10,Iv V.2.1,Eb)],[]⟩
def NP (O:ak Int)(d:((ak aj)×Bool×Int)):jc×bj:=(.exit 0,⟨[(1,.fn (.func 26) [] [],Eb),(5,sl 1 jf d.1,d.2.1),(8,sl 1 zg O,Eb),(9,Lv O,Eb),(10,Iv d.2.2,Eb),(11,.bool Eb,Eb)],[]⟩)
theorem jvi (O:ak Int)(V:(ak aj)×Int×Bool)(r)(h:yX O V=Eg r):js aB NQ (NN O) (NP O) V r:=by
 unfold yX at h
 repeat' first|(replace h:=qd h;obtain⟨d,g,h⟩:=h;with_reducible first|replace g:=j84 [] g|replace g:=Fk g|skip)|(replace h:=qe h;rcases h with⟨g,h⟩|⟨g,h⟩)
 all_goals (cases h<;>((first|refine qw ?_|refine jy ?_);simp only[go_sem,seval,NQ,NN,jn,NP, *]<;>rfl))
theorem jum (O:ak Int){V:(ak aj)×Int×Bool}{d}(h:bu (yX O) V=Eg d):X aB (.loop NQ) (NN O V)=Eg (NP O d):=nC (jvi O) (fun d hh=>by cases hh) h
def f174 (O:ak Int):Option ((ak aj)×Bool):=
 qc (bu (yX O) (Eh,0,Eb)) fun d28=>
 Eg (d28.1,d28.2.1)
theorem j6u {O:ak Int}{r}(h:f174 O=Eg r):ae aB (X aB) 174 [sl 1 zg O,.fn (.func 26) [] []]=Eg (sl 1 jf r.1,r.2):=by
 unfold f174 at h;refine yf BZ ?_
 repeat' first|(replace h:=qd h;obtain⟨d,g,h⟩:=h;with_reducible first|(replace g:=jum O g;dsimp only[NN,NP,zp]at g h)|skip)|(replace h:=qe h;rcases h with⟨g,h⟩|⟨g,h⟩)
 all_goals (cases h<;>(simp only[go_sem,seval,BZ, *];exact⟨_,rfl⟩))
def f101 (O:GEv):Option aj:=
 qc (f26 O.number) fun v1=>
 qc (bB (Eg [v1,O.kind]) (O.names.getD [])) fun v3=>
 qc (f174 O.values) fun v5=>
 qc (bB v3 (v5.1.getD [])) fun v7=>
 qc (f29 v7 ([32]:aj)) fun v9=>
 Eg v9
theorem j6g {O:GEv}{r}(h:f101 O=Eg r):ae aB (X aB) 101 [aE O]=Eg (.str r,Eb):=by
 unfold f101 at h;obtain⟨v1,I,h⟩:=qd h;have iY:ae aB (X aB) 26 [Iv O.number]=Eg (.str v1,Eb):=JH I;obtain⟨v3,h4,h⟩:=qd h;obtain⟨v5,h6,h⟩:=qd h;have B0:ae aB (X aB) 174 [sl 1 zg O.values,.fn (.func 26) [] []]=Eg (sl 1 jf v5.1,v5.2):=j6u h6;obtain⟨v7,h8,h⟩:=qd h;obtain⟨v9,ep,h⟩:=qd h;have Vj:ae aB (X aB) 29 [sl 1 jf v7,.str ([32]:aj)]=Eg (.str v9,Eb):=FU ep;have Q:v9=r:=Eg.inj h;subst Q
 have this:∃hh,ai aB (X aB) 101 [aE O] []=Eg (.str v9,Eb,hh):=by
  rw[qh (show aB.bn 101=Eg B1 from rfl) (by simp)];simp only[go_sem,seval,B1,iY,(show ∀(b t:Nat) (hq:qi),bR 1 b hq (Eg t) (Eg (.list Eb 1 [.str v1,.str O.kind])) (Eg (sl 1 jf O.names))=cm (decide (b<=4096)) (Eg ⟨sl 1 jf v3,Ep,Eg t,hq⟩)from fun _ _ _=>UT (o:=Eg [v1,O.kind]) h4),B0,UT h8,Vj];exact⟨_,rfl⟩
 obtain⟨hh,this⟩:=this;exact jo rfl this (by first|rfl|simp only[go_sem,seval]) (by first|rfl|simp only[go_sem,seval])
def f31 (O:GEv):Option aj:=
 qc (f101 O) fun v1=>
 qc (kF v1 ([35]:aj)) fun v3=>
 qc (f102 v1) fun v5=>
 qc (kF v3 v5) fun v7=>
 qc (kF v7 ([10]:aj)) fun v9=>
 Eg v9
end Go.Z
namespace Go.Z
open Go Go.Abs Go.W
theorem za3 {O:ak aj}{J:aj}{r}(h:f69 O J=Eg r):ae aB (X aB) 69 [sl 1 jf O,.str J]=Eg (.bool r,Eb):=aF.ae (NR h)
theorem j5m {O:ak Int}{r}(h:f17 O=Eg r):ae aB (X aB) 17 [sl 1 zg O]=Eg (Iv r,Eb):=aF.ae (fC h)
theorem js6 {O:Bool}{J:Int}{r}(h:f18 O J=Eg r):ae aB (X aB) 18 [.bool O,Iv J]=Eg (Iv r,Eb):=aF.ae (dp h)
theorem j9c {O:GEv}{r}(h:f24 O=Eg r):ae aB (X aB) 24 [aE O]=Eg (Iv r,Eb):=aF.ae (FW h)
theorem jxt {O:ak aj}{r}(h:f86 O=Eg r):ae aB (X aB) 86 [sl 1 jf O]=Eg (sl 1 jf r.1,r.2):=aF.ae (Vk h)
@[go_sem] theorem j7u:aB.maps 22=Eg y9:=rfl
def f88 (O:aj)(dR:Bool):Option (Int×Bool):=
 qc (f89 O) fun v1=>
 cond dR
  (Eg (v1.1,v1.2))
  (Eg (v1.1,Eb))
theorem W88 {O:aj}{dR:Bool}{x0:bG}{x1:bG}{x2:bG}{r}(h:f88 O dR=Eg r):ai aB (X aB) 88 [.str O,.ptr 3 0] [x0,x1,x2,.cells [(.bool dR,Eb)]]=Eg (Iv r.1,Eb,[x0,x1,x2,.cells [(.bool r.2,Eb)]]):=by
 unfold f88 at h;rw[qh (show aB.bn 88=Eg Vl from rfl) (by simp)]
 repeat' first|(replace h:=qd h;obtain⟨d,g,h⟩:=h;with_reducible first|replace g:=W89 g|skip)|(replace h:=qe h;rcases h with⟨g,h⟩|⟨g,h⟩)
 all_goals (cases h<;>(simp only[go_sem,seval,Vl, *]<;>rfl))
def yY (O:ak aj)(V:(ak Int)×Int×Bool×Bool):Option (((ak Int)×Int×Bool×Bool)⊕(((ak Int)×Bool×Int×Bool))):=
 cond (decide (V.2.1<((O.getD []).length:Int)))
  (qc (qo (O.getD []) V.2.1) fun eU=>
  qc (f88 eU V.2.2.1) fun v20=>
  cond V.2.2.2
   (qc (bB V.1 [v20.1]) fun v23=>
   Eg (.inl (v23,qf .i64 (V.2.1+1),v20.2,Ep)))
   (cond V.1.isNone
    (qc (bB V.1 [v20.1]) fun v26=>
    Eg (.inl (v26,qf .i64 (V.2.1+1),v20.2,Ep)))
    (Eh)))
  (Eg (.inr (V.1,V.2.2.2,V.2.1,V.2.2.1)))
def FX (O:ak aj)(x0:bG)(x1:bG)(x2:bG)(V:(ak Int)×Int×Bool×Bool):bj:=⟨[(1,.fn (.func 88) [] [.ptr 3 0],Eb),(5,sl 1 zg V.1,V.2.2.2),(8,sl 1 jf O,Eb),(9,Lv O,Eb),(10,Iv V.2.1,Eb)],[x0,x1,x2,.cells [(.bool V.2.2.1,Eb)]]⟩
def NS (O:ak aj)(x0:bG)(x1:bG)(x2:bG)(d:((ak Int)×Bool×Int×Bool)):jc×bj:=(.exit 0,⟨[(1,.fn (.func 88) [] [.ptr 3 0],Eb),(5,sl 1 zg d.1,d.2.1),(8,sl 1 jf O,Eb),(9,Lv O,Eb),(10,Iv d.2.2.1,Eb),(11,.bool Eb,Eb)],[x0,x1,x2,.cells [(.bool d.2.2.2,Eb)]]⟩)
theorem jzz (O:ak aj)(x0:bG)(x1:bG)(x2:bG)(V:(ak Int)×Int×Bool×Bool)(r)(h:yY O V=Eg r):js aB FY (FX O x0 x1 x2) (NS O x0 x1 x2) V r:=by
 unfold yY at h;rcases qe h with⟨uk,h⟩|⟨uk,h⟩
 .obtain⟨eU,xS,h⟩:=qd h;obtain⟨v20,sF,h⟩:=qd h;have wQ:ai aB (X aB) 88 [.str eU,.ptr 3 0] [x0,x1,x2,.cells [(.bool V.2.2.1,Eb)]]=Eg (Iv v20.1,Eb,[x0,x1,x2,.cells [(.bool v20.2,Eb)]]):=W88 sF;rcases qe h with⟨pB,h⟩|⟨pB,h⟩
  .obtain⟨v23,vR,h⟩:=qd h;cases h;exact z7 (bN:=⟨[(1,.fn (.func 88) [] [.ptr 3 0],Eb),(5,sl 1 zg v23,Ep),(8,sl 1 jf O,Eb),(9,Lv O,Eb),(10,Iv (qf .i64 (V.2.1+1)),Eb)],[x0,x1,x2,.cells [(.bool v20.2,Eb)]]⟩) (by simp only[go_sem,seval,FY,FX,uk,jg xS,wQ,pB,qxa vR]<;>rfl) (yv (En _))
  .rcases qe h with⟨vS,h⟩|⟨vS,h⟩
   .obtain⟨v26,wO,h⟩:=qd h;cases h;exact z7 (bN:=⟨[(1,.fn (.func 88) [] [.ptr 3 0],Eb),(5,sl 1 zg v26,Ep),(8,sl 1 jf O,Eb),(9,Lv O,Eb),(10,Iv (qf .i64 (V.2.1+1)),Eb)],[x0,x1,x2,.cells [(.bool v20.2,Eb)]]⟩) (by simp only[go_sem,seval,FY,FX,uk,jg xS,wQ,pB,vS,qxq wO vS]<;>rfl) (yv (En _))
   .cases h
 .cases h;exact qw (by simp only[go_sem,seval,FY,FX,uk,NS]<;>rfl)
theorem j0d (O:ak aj)(x0:bG)(x1:bG)(x2:bG){V:(ak Int)×Int×Bool×Bool}{d}(h:bu (yY O) V=Eg d):X aB (.loop FY) (FX O x0 x1 x2 V)=Eg (NS O x0 x1 x2 d):=nC (jzz O x0 x1 x2) (fun d hh=>by cases hh) h
def f87 (O:ak aj)(dR:Bool):Option ((ak Int)×Bool×Bool):=
 qc (bu (yY O) (Eh,0,dR,Eb)) fun d28=>
 Eg (d28.1,d28.2.1,d28.2.2.2)
theorem W87 {O:ak aj}{dR:Bool}{x0:bG}{x1:bG}{x2:bG}{r}(h:f87 O dR=Eg r):ai aB (X aB) 87 [sl 1 jf O,.fn (.func 88) [] [.ptr 3 0]] [x0,x1,x2,.cells [(.bool dR,Eb)]]=Eg (sl 1 zg r.1,r.2.1,[x0,x1,x2,.cells [(.bool r.2.2,Eb)]]):=by
 unfold f87 at h;rw[qh (show aB.bn 87=Eg Vm from rfl) (by simp)]
 repeat' first|(replace h:=qd h;obtain⟨d,g,h⟩:=h;with_reducible first|(replace g:=j0d O x0 x1 x2 g;dsimp only[FX,NS,zp]at g h)|skip)|(replace h:=qe h;rcases h with⟨g,h⟩|⟨g,h⟩)
 all_goals (cases h<;>(simp only[go_sem,seval,Vm, *]<;>rfl))
def f23 (O:ak aj)(J:Int):Option (GEv×Bool):=
 qc (qo (O.getD []) 0) fun v1=>
 cond (lP v1)
  (cond (decide (((O.getD []).length:Int)=(qf .i64 ((qf .i64 (1+((j0 v1).length:Int)))+(lO v1)))))
   (qc (f69 O []) fun v5=>
   cond v5
    (Eg (⟨0,[],Eh,Eh,[]⟩,Eb))
    (qc (mH O (Eg 1) (Eg (qf .i64 (1+((j0 v1).length:Int))))) fun v8=>
    qc (f86 v8) fun v10=>
    qc (mH O (Eg (qf .i64 (1+((j0 v1).length:Int)))) Eh) fun v12=>
    qc (f87 v12 Ep) fun dm=>
    cond dm.2.1
     (Eg (⟨J,v1,v10.1,dm.1,[]⟩,dm.2.2))
     (Eg (⟨J,v1,v10.1,dm.1,[]⟩,dm.2.2))))
   (Eg (⟨0,[],Eh,Eh,[]⟩,Eb)))
  (Eg (⟨0,[],Eh,Eh,[]⟩,Eb))
theorem JK {O:ak aj}{J:Int}{r}(h:f23 O J=Eg r):ae aB (X aB) 23 [sl 1 jf O,Iv J]=Eg (.bq [aE r.1,.bool r.2],Eb):=by
 unfold f23 at h;obtain⟨v1,I,h⟩:=qd h;rcases qe h with⟨h3,h⟩|⟨h3,h⟩
 .rcases qe h with⟨h4,h⟩|⟨h4,h⟩
  .obtain⟨v5,h6,h⟩:=qd h;have B0:ae aB (X aB) 69 [sl 1 jf O,.str []]=Eg (.bool v5,Eb):=za3 h6;rcases qe h with⟨h7,h⟩|⟨h7,h⟩
   .have Q:(⟨0,[],Eh,Eh,[]⟩,Eb)=r:=Eg.inj h;subst Q
    have this:∃hh,ai aB (X aB) 23 [sl 1 jf O,Iv J] []=Eg (.bq [.agg [Iv 0,.str [],Nl,Nl,.str []],.bool Eb],Eb,hh):=by
     rw[qh (show aB.bn 23=Eg rm from rfl) (by simp)];simp only[go_sem,seval,rm,jg I,sQ,h3,h4,B0,h7];exact⟨_,rfl⟩
    obtain⟨hh,this⟩:=this;exact jo rfl this (by first|rfl|simp only[go_sem,seval]) (by first|rfl|simp only[go_sem,seval])
   .obtain⟨v8,h9,h⟩:=qd h;obtain⟨v10,gA,h⟩:=qd h;have JL:ae aB (X aB) 86 [sl 1 jf v8]=Eg (sl 1 jf v10.1,v10.2):=jxt gA;obtain⟨v12,ib,h⟩:=qd h;obtain⟨dm,qW,h⟩:=qd h;have wT:ai aB (X aB) 87 [sl 1 jf v12,.fn (.func 88) [] [.ptr 3 0]] [.cells [(Iv 0,Eb),(.str [],Eb),(Nl,Eb),(Nl,Eb),(.str [],Eb)],.map y9,.cells [(Iv J,Eb),(.str v1,Eb),(sl 1 jf v10.1,Eb),(Nl,Eb),(.str [],Eb)],.cells [(.bool Ep,Eb)]]=Eg (sl 1 zg dm.1,dm.2.1,[.cells [(Iv 0,Eb),(.str [],Eb),(Nl,Eb),(Nl,Eb),(.str [],Eb)],.map y9,.cells [(Iv J,Eb),(.str v1,Eb),(sl 1 jf v10.1,Eb),(Nl,Eb),(.str [],Eb)],.cells [(.bool dm.2.2,Eb)]]):=W87 qW;rcases qe h with⟨jK,h⟩|⟨jK,h⟩
    .rw[jK]at wT;have Q:(⟨J,v1,v10.1,dm.1,[]⟩,dm.2.2)=r:=Eg.inj h;subst Q
     have this:∃hh,ai aB (X aB) 23 [sl 1 jf O,Iv J] []=Eg (.bq [.agg [Iv J,.str v1,sl 1 jf v10.1,sl 1 zg dm.1,.str []],.bool dm.2.2],Eb,hh):=by
      rw[qh (show aB.bn 23=Eg rm from rfl) (by simp)];simp only[go_sem,seval,rm,jg I,sQ,h3,h4,B0,h7,q8b h9,JL,jas ib,wT,jK];exact⟨_,rfl⟩
     obtain⟨hh,this⟩:=this;exact jo rfl this (by first|rfl|simp only[go_sem,seval]) (by first|rfl|simp only[go_sem,seval])
    .rw[jK]at wT;have Q:(⟨J,v1,v10.1,dm.1,[]⟩,dm.2.2)=r:=Eg.inj h;subst Q
     have this:∃hh,ai aB (X aB) 23 [sl 1 jf O,Iv J] []=Eg (.bq [.agg [Iv J,.str v1,sl 1 jf v10.1,sl 1 zg dm.1,.str []],.bool dm.2.2],Eb,hh):=by
      rw[qh (show aB.bn 23=Eg rm from rfl) (by simp)];simp only[go_sem,seval,rm,jg I,sQ,h3,h4,B0,h7,q8b h9,JL,jas ib,wT,jK];exact⟨_,rfl⟩
     obtain⟨hh,this⟩:=this;exact jo rfl this (by first|rfl|simp only[go_sem,seval]) (by first|rfl|simp only[go_sem,seval])
  .have Q:(⟨0,[],Eh,Eh,[]⟩,Eb)=r:=Eg.inj h;subst Q
   have this:∃hh,ai aB (X aB) 23 [sl 1 jf O,Iv J] []=Eg (.bq [.agg [Iv 0,.str [],Nl,Nl,.str []],.bool Eb],Eb,hh):=by
    rw[qh (show aB.bn 23=Eg rm from rfl) (by simp)];simp only[go_sem,seval,rm,jg I,sQ,h3,h4];exact⟨_,rfl⟩
   obtain⟨hh,this⟩:=this;exact jo rfl this (by first|rfl|simp only[go_sem,seval]) (by first|rfl|simp only[go_sem,seval])
 .have Q:(⟨0,[],Eh,Eh,[]⟩,Eb)=r:=Eg.inj h;subst Q
  have this:∃hh,ai aB (X aB) 23 [sl 1 jf O,Iv J] []=Eg (.bq [.agg [Iv 0,.str [],Nl,Nl,.str []],.bool Eb],Eb,hh):=by
   rw[qh (show aB.bn 23=Eg rm from rfl) (by simp)];simp only[go_sem,seval,rm,jg I,sQ,h3];exact⟨_,rfl⟩
  obtain⟨hh,this⟩:=this;exact jo rfl this (by first|rfl|simp only[go_sem,seval]) (by first|rfl|simp only[go_sem,seval])
def f179 (O:aj):Option (GEv×Bool):=
 qc (f103 O ([32]:aj)) fun v1=>
 qc (f89 v1.1) fun v3=>
 cond v1.2.2
  (cond v3.2
   (qc (f19 v1.2.1 ([32]:aj)) fun v7=>
   qc (f23 v7 v3.1) fun v9=>
   cond v9.2
    (qc (f24 v9.1) fun v12=>
    Eg (v9.1,decide (v12=0)))
    (Eg (v9.1,Eb)))
   (Eg (⟨0,[],Eh,Eh,[]⟩,Eb)))
  (Eg (⟨0,[],Eh,Eh,[]⟩,Eb))
theorem j79 {O:aj}{r}(h:f179 O=Eg r):ae aB (X aB) 179 [.str O]=Eg (.bq [aE r.1,.bool r.2],Eb):=by
 unfold f179 at h;refine zd B2 ?_
 repeat' first|(replace h:=qd h;obtain⟨d,g,h⟩:=h;with_reducible first|replace g:=jvl g|replace g:=W89 g|replace g:=BL g|replace g:=JK g|replace g:=j9c g|skip)|(replace h:=qe h;rcases h with⟨g,h⟩|⟨g,h⟩)
 all_goals (cases h<;>(simp only[go_sem,seval,B2, *];exact⟨_,rfl⟩))
def f104 (O:aj)(J:Int):Option (GEv×Int):=
 cond (decide ((qf .i64 ((O.length:Int)-8))<0))
  (Eg (⟨0,[],Eh,Eh,[]⟩,26))
  (qc (qo O (qf .i64 ((O.length:Int)-8))) fun v2=>
  cond (decide ((v2.toNat:Int)=35))
   (qc (jN O (Eg (qf .i64 ((qf .i64 ((O.length:Int)-8))+1))) Eh) fun v5=>
   qc (f177 v5) fun v7=>
   cond v7
    (Eg (⟨0,[],Eh,Eh,[]⟩,26))
    (qc (jN O Eh (Eg (qf .i64 ((O.length:Int)-8)))) fun v10=>
    qc (f102 v10) fun v12=>
    cond (decide (v5=v12))
     (qc (f179 v10) fun dS=>
     qc (f18 (!dS.2) 26) fun fS=>
     qc (f18 (!decide (dS.1.number=(qf .i64 (J+1)))) 11) fun kG=>
     qc (f17 (Eg [fS,kG])) fun v21=>
     cond (decide (v21=0))
      (Eg (dS.1,0))
      (Eg (⟨0,[],Eh,Eh,[]⟩,v21)))
     (Eg (⟨0,[],Eh,Eh,[]⟩,28))))
   (Eg (⟨0,[],Eh,Eh,[]⟩,26)))
theorem j47 {O:aj}{J:Int}{r}(h:f104 O J=Eg r):ae aB (X aB) 104 [.str O,Iv J]=Eg (.bq [aE r.1,Iv r.2],Eb):=by
 unfold f104 at h;rcases qe h with⟨Y,h⟩|⟨Y,h⟩
 .have Q:(⟨0,[],Eh,Eh,[]⟩,26)=r:=Eg.inj h;subst Q
  have this:∃hh,ai aB (X aB) 104 [.str O,Iv J] []=Eg (.bq [.agg [Iv 0,.str [],Nl,Nl,.str []],Iv 26],Eb,hh):=by
   rw[qh (show aB.bn 104=Eg gV from rfl) (by simp)];simp only[go_sem,seval,gV,Y];exact⟨_,rfl⟩
  obtain⟨hh,this⟩:=this;exact jo rfl this (by first|rfl|simp only[go_sem,seval]) (by first|rfl|simp only[go_sem,seval])
 .obtain⟨v2,h3,h⟩:=qd h;rcases qe h with⟨h4,h⟩|⟨h4,h⟩
  .obtain⟨v5,h6,h⟩:=qd h;obtain⟨v7,h8,h⟩:=qd h;have yZ:ae aB (X aB) 177 [.str v5,.fn (.func 178) [] []]=Eg (.bool v7,Eb):=zao h8;rcases qe h with⟨h9,h⟩|⟨h9,h⟩
   .have Q:(⟨0,[],Eh,Eh,[]⟩,26)=r:=Eg.inj h;subst Q
    have this:∃hh,ai aB (X aB) 104 [.str O,Iv J] []=Eg (.bq [.agg [Iv 0,.str [],Nl,Nl,.str []],Iv 26],Eb,hh):=by
     rw[qh (show aB.bn 104=Eg gV from rfl) (by simp)];simp only[go_sem,seval,gV,Y,Bb h3,h4,vb h6,yZ,h9];exact⟨_,rfl⟩
    obtain⟨hh,this⟩:=this;exact jo rfl this (by first|rfl|simp only[go_sem,seval]) (by first|rfl|simp only[go_sem,seval])
   .obtain⟨v10,gA,h⟩:=qd h;obtain⟨v12,ib,h⟩:=qd h;have B3:ae aB (X aB) 102 [.str v10]=Eg (.str v12,Eb):=jr3 ib;rcases qe h with⟨jM,h⟩|⟨jM,h⟩
    .obtain⟨dS,jK,h⟩:=qd h;have pM:ae aB (X aB) 179 [.str v10]=Eg (.bq [aE dS.1,.bool dS.2],Eb):=j79 jK;obtain⟨fS,JG,h⟩:=qd h;have pN:ae aB (X aB) 18 [.bool (!dS.2),Iv 26]=Eg (Iv fS,Eb):=js6 JG;obtain⟨kG,sE,h⟩:=qd h;have pP:ae aB (X aB) 18 [.bool (!decide (dS.1.number=(qf .i64 (J+1)))),Iv 11]=Eg (Iv kG,Eb):=js6 sE;obtain⟨v21,pB,h⟩:=qd h;have pQ:ae aB (X aB) 17 [.list Eb 1 [Iv fS,Iv kG]]=Eg (Iv v21,Eb):=j5m pB;rcases qe h with⟨sG,h⟩|⟨sG,h⟩
     .have Q:(dS.1,0)=r:=Eg.inj h;subst Q
      have this:∃hh,ai aB (X aB) 104 [.str O,Iv J] []=Eg (.bq [aE dS.1,Iv 0],Eb,hh):=by
       rw[qh (show aB.bn 104=Eg gV from rfl) (by simp)];simp only[go_sem,seval,gV,Y,Bb h3,h4,vb h6,yZ,h9,BI gA,B3,jM,pM,pN,pP,pQ,sG];exact⟨_,rfl⟩
      obtain⟨hh,this⟩:=this;exact jo rfl this (by first|rfl|simp only[go_sem,seval]) (by first|rfl|simp only[go_sem,seval])
     .have Q:(⟨0,[],Eh,Eh,[]⟩,v21)=r:=Eg.inj h;subst Q
      have this:∃hh,ai aB (X aB) 104 [.str O,Iv J] []=Eg (.bq [.agg [Iv 0,.str [],Nl,Nl,.str []],Iv v21],Eb,hh):=by
       rw[qh (show aB.bn 104=Eg gV from rfl) (by simp)];simp only[go_sem,seval,gV,Y,Bb h3,h4,vb h6,yZ,h9,BI gA,B3,jM,pM,pN,pP,pQ,sG];exact⟨_,rfl⟩
      obtain⟨hh,this⟩:=this;exact jo rfl this (by first|rfl|simp only[go_sem,seval]) (by first|rfl|simp only[go_sem,seval])
    .have Q:(⟨0,[],Eh,Eh,[]⟩,28)=r:=Eg.inj h;subst Q
     have this:∃hh,ai aB (X aB) 104 [.str O,Iv J] []=Eg (.bq [.agg [Iv 0,.str [],Nl,Nl,.str []],Iv 28],Eb,hh):=by
      rw[qh (show aB.bn 104=Eg gV from rfl) (by simp)];simp only[go_sem,seval,gV,Y,Bb h3,h4,vb h6,yZ,h9,BI gA,B3,jM];exact⟨_,rfl⟩
     obtain⟨hh,this⟩:=this;exact jo rfl this (by first|rfl|simp only[go_sem,seval]) (by first|rfl|simp only[go_sem,seval])
  .have Q:(⟨0,[],Eh,Eh,[]⟩,26)=r:=Eg.inj h;subst Q
   have this:∃hh,ai aB (X aB) 104 [.str O,Iv J] []=Eg (.bq [.agg [Iv 0,.str [],Nl,Nl,.str []],Iv 26],Eb,hh):=by
    rw[qh (show aB.bn 104=Eg gV from rfl) (by simp)];simp only[go_sem,seval,gV,Y,Bb h3,h4];exact⟨_,rfl⟩
   obtain⟨hh,this⟩:=this;exact jo rfl this (by first|rfl|simp only[go_sem,seval]) (by first|rfl|simp only[go_sem,seval])
def tc (O:aj)(V:(ak GEv)×Int×Bool):Option (((ak GEv)×Int×Bool)⊕(((ak GEv)×Bool×Int×Int)⊕((ak GEv)×Bool×Int))):=
 cond (decide (V.2.1<(O.length:Int)))
  (qc (jN O (Eg V.2.1) Eh) fun pR=>
  qc (f103 pR ([10]:aj)) fun et=>
  cond et.2.2
   (qc (f104 et.1 ((V.1.getD []).length:Int)) fun ie=>
   cond (decide (ie.2=0))
    (cond V.2.2
     (qc (bB V.1 [ie.1]) fun rn=>
     Eg (.inl (rn,qf .i64 (V.2.1+(qf .i64 ((et.1.length:Int)+1))),Ep)))
     (cond V.1.isNone
      (qc (bB V.1 [ie.1]) fun B4=>
      Eg (.inl (B4,qf .i64 (V.2.1+(qf .i64 ((et.1.length:Int)+1))),Ep)))
      (Eh)))
    (Eg (.inr (.inl (V.1,V.2.2,V.2.1,ie.2)))))
   (Eg (.inr (.inl (V.1,V.2.2,V.2.1,29)))))
  (Eg (.inr (.inr (V.1,V.2.2,V.2.1))))
def zC (O:aj)(V:(ak GEv)×Int×Bool):bj:=⟨[(0,.str O,Eb),(5,sl 5 vev V.1,V.2.2),(6,Iv V.2.1,Eb)],[]⟩
def FZ (O:aj):((ak GEv)×Bool×Int×Int)⊕((ak GEv)×Bool×Int)->jc×bj
 | .inl d=>(.ret,⟨[(2,sl 5 vev d.1,d.2.1),(3,Iv d.2.2.1,Eb),(4,Iv d.2.2.2,Eb)],[]⟩)| .inr d=>(.exit 0,⟨[(0,.str O,Eb),(5,sl 5 vev d.1,d.2.1),(6,Iv d.2.2,Eb),(18,.bool Eb,Eb)],[]⟩)
theorem jz2 (O:aj)(V:(ak GEv)×Int×Bool)(r)(h:tc O V=Eg r):js aB zE (zC O) (FZ O) V r:=by
 unfold tc at h;rcases qe h with⟨rj,h⟩|⟨rj,h⟩
 .obtain⟨pR,vf,h⟩:=qd h;obtain⟨et,yT,h⟩:=qd h;have jO:ae aB (X aB) 103 [.str pR,.str ([10]:aj)]=Eg (.bq [.str et.1,.str et.2.1,.bool et.2.2],Eb):=jvl yT;rcases qe h with⟨mM,h⟩|⟨mM,h⟩
  .rw[mM]at jO;obtain⟨ie,F0,h⟩:=qd h;have pS:ae aB (X aB) 104 [.str et.1,Lv V.1]=Eg (.bq [aE ie.1,Iv ie.2],Eb):=j47 F0;rcases qe h with⟨B5,h⟩|⟨B5,h⟩
   .rcases qe h with⟨pT,h⟩|⟨pT,h⟩
    .obtain⟨rn,h37,h⟩:=qd h;cases h;exact z7 (bN:=⟨[(0,.str O,Eb),(5,sl 5 vev rn,Ep),(6,Iv (qf .i64 (V.2.1+(qf .i64 ((et.1.length:Int)+1)))),Eb)],[]⟩) (by simp only[go_sem,seval,zE,zC,rj,vb vf,jO,mM,pS,B5,pT,TW h37]<;>rfl) (yv (En _))
    .rcases qe h with⟨zF,h⟩|⟨zF,h⟩
     .obtain⟨B4,h40,h⟩:=qd h;cases h;exact z7 (bN:=⟨[(0,.str O,Eb),(5,sl 5 vev B4,Ep),(6,Iv (qf .i64 (V.2.1+(qf .i64 ((et.1.length:Int)+1)))),Eb)],[]⟩) (by simp only[go_sem,seval,zE,zC,rj,vb vf,jO,mM,pS,B5,pT,zF,TX h40 zF]<;>rfl) (yv (En _))
     .cases h
   .cases h;exact qw (by simp only[go_sem,seval,zE,zC,rj,vb vf,jO,mM,pS,B5,FZ]<;>rfl)
  .rw[mM]at jO;cases h;exact qw (by simp only[go_sem,seval,zE,zC,rj,vb vf,jO,mM,FZ]<;>rfl)
 .cases h;exact qw (by simp only[go_sem,seval,zE,zC,rj,FZ]<;>rfl)
theorem jyb (O:aj){V:(ak GEv)×Int×Bool}{d}(h:bu (tc O) V=Eg d):X aB (.loop zE) (zC O V)=Eg (FZ O d):=nC (jz2 O) (fun d=>by rcases d with d|d<;>(intro hh;cases hh)) h
def f32 (O:aj):Option ((ak GEv)×Int×Int):=
 cond (decide (1000000<(O.length:Int)))
  (Eg (Eh,0,27))
  (qc (bu (tc O) (Eh,0,Eb)) fun d41=>match d41 with
   | .inl d43=>
    Eg (d43.1,d43.2.2.1,d43.2.2.2)
   | .inr d44=>
    Eg (d44.1,d44.2.2,0))
theorem W32 {O:aj}{r}(h:f32 O=Eg r):ae aB (X aB) 32 [.str O]=Eg (.bq [sl 5 vev r.1,Iv r.2.1,Iv r.2.2],Eb):=by
 unfold f32 at h;refine zd Vn ?_
 repeat' first|(replace h:=qd h;obtain⟨d,g,h⟩:=h;with_reducible first|(replace g:=jyb O g;rcases d with d|d<;>dsimp only[zC,FZ,zp]at g h)|skip)|(replace h:=qe h;rcases h with⟨g,h⟩|⟨g,h⟩)
 all_goals (cases h<;>(simp only[go_sem,seval,Vn, *];exact⟨_,rfl⟩))
end Go.Z
end
