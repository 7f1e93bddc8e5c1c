/- The program in which the library's functions on strings, and the document's examples, are . -/
import Derived.Test.YtlhfdilpecnjeaaGreatDoorAZ
import Derived.Test.YtlhfdilpecnjeaaGreatDoorS1
set_option linter.unusedVariables false
set_option linter.unusedSimpArgs false
set_option maxRecDepth 100000
noncomputable section
open Bool renaming false->En,true->Hb,false_beq->H4,not_false->H8,and_self->H9,true_beq->Ia,not_true->Ib,not_not->Ic
open Option renaming some->E6,none->Ha
open Nat renaming le_refl->Hc,ble->H2,blt->H3
namespace Go.Z
open Go Go.Abs Go.Proofs
def Po:Aw:=fun k=>bif Nat.beq k 5 then E6 S1 else Kh k
def aB:j8:={ br:=pr.br,cB:=Po,cF:=WO,maps:=Ki }
theorem aF:gq pr aB where
 maps:=fun k es h=>h
 br:=fun k b hb=>.inl hb
 cF:=by intro k F hn hF;cases hF
 cB:=by
  intro k
  cases hk:Po k with
  |none=>exact .inr ⟨hk,rfl⟩
  |some t=>
   refine .inl ⟨t,hk,fun args r h=>?_⟩
   have hn:pr.br k=Ha:=jh2 (by
    cases G:isS k with
    |true=>rfl
    |false=>
     simp only[isS,Bool.or_eq_false_iff]at G;obtain⟨⟨⟨⟨⟨Y,I⟩,h3⟩,h4⟩,h5⟩,h6⟩:=G;simp only[Po,Kh,Y,I,h3,h4,h5,h6,cond_false]at hk
     cases hk)
   unfold ae ai at h;rw[hn]at h;cases h
theorem okS:bX Tryz.prog aB where
 fn:=tF.fn
 fM:=by
  intro k f hf;simp only[aB,Po,Bool.cond_eq_ite]at hf;split at hf
  .next hb=>obtain rfl:=Nat.eq_of_beq_eq_true hb;exact okZ.fM 5 f hf
  .exact dP.fM k f hf
 mixed:=tF.mixed
 eU:=dP.eU
 maps:=tF.maps
theorem Ch {k f args v}(hp:aB.cB k=E6 f)(h:f args=E6 (v,En))(hv:l7 v=Hb):ae aB (X aB) k args=E6 (v,En):=by
 unfold ae;rw[hp];simp only[h,hv,cond_true]
def f256 (s:aj):Int->Option Int
 | .ofNat n=>E6 (Gt (UInt8.ofNat n) s 0)|_=>Ha
theorem zey {s:aj}{c r:Int}(h:f256 s c=E6 r):ae aB (X aB) 256 [.str s,.int .u8 c]=E6 (.int .i64 r,En):=by
 cases c with
 |ofNat n=>cases h;exact Ch (f:=OV) rfl rfl rfl|negSucc n=>cases h
theorem q3w:∀ (l:List aj),qo 0 (l.map .str)=Hb
 | []=>rfl
 |x::l=>by simp only[List.map_cons,qo,below,q3w l,H9]
def f19 (s:aj):aj->Option (ak aj)
 | [c]=>bif H3 s.length 4294967281 then E6 (E6 (ef c s))else Ha|_=>Ha
theorem zO {s p:aj}{r}(h:f19 s p=E6 r):ae aB (X aB) 19 [.str s,.str p]=E6 (sl 1 jf r,En):=by
 cases p with
 |nil=>cases h
 |cons c t=>
  cases t with
  |cons _ _=>cases h
  |nil=>
   simp only[f19]at h
   cases hb:H3 s.length 4294967281 with
   |false=>rw[hb]at h;cases h
   |true=>
    rw[hb]at h;cases h;exact Ch (f:=Kf) rfl (by simp only[Kf,hb,cond_true];rfl) (by show qo 0 ((ef c s).map .str)=Hb;exact q3w _)
theorem qyf:∀ (l:List aj),Gv (l.map .str)=E6 l
 | []=>rfl
 |x::l=>by simp only[List.map_cons,Gv,qyf l]
def f47:ak aj->aj->Option aj
 |none,_=>E6 []|some (s::ss),p=>bif H2 (s::ss).length 100000&&H2 (p.intercalate (s::ss)).length 100000000 then E6 (p.intercalate (s::ss))else Ha|some [],_=>Ha
theorem GJ {l:ak aj}{p:aj}{r}(h:f47 l p=E6 r):ae aB (X aB) 47 [sl 1 jf l,.str p]=E6 (.str r,En):=by
 cases l with
 |none=>cases h;exact Ch (f:=t99) rfl rfl rfl
 |some l=>
  cases l with
  |nil=>cases h
  |cons s ss=>
   simp only[f47]at h
   cases hb:(H2 (s::ss).length 100000&&H2 (p.intercalate (s::ss)).length 100000000)with
   |false=>rw[hb]at h;cases h
   |true=>
    rw[hb]at h;cases h;refine Ch (f:=t99) rfl ?_ rfl;show t99 [.list En 1 ((s::ss).map .str),.str p]=_;simp only[t99,qyf,hb,cond_true]
def f43:Int->Option aj
 | .ofNat n=>bif H3 n 1000000000000000000 then E6 (Gu 18 n [])else Ha|_=>Ha
theorem Kz {n:Int}{r}(h:f43 n=E6 r):ae aB (X aB) 43 [.int .i64 n]=E6 (.str r,En):=by
 cases n with
 |negSucc n=>cases h
 |ofNat n=>
  simp only[f43]at h
  cases hb:H3 n 1000000000000000000 with
  |false=>rw[hb]at h;cases h|true=>rw[hb]at h;cases h;exact Ch (f:=zK) rfl (by simp only[zK,hb,cond_true]) rfl
theorem zik (hp:qf){n:Int}{r}(h:f43 n=E6 r):ai aB (X aB) 43 [.int .i64 n] hp=E6 (.str r,En,hp):=by
 have hn:pr.br 43=Ha:=jh2 (k:=43) rfl;have jY:aB.br 43=Ha:=hn;unfold ai;rw[jY,show aB.cF 43=E6 Gw from rfl]
 cases n with
 |negSucc n=>cases h
 |ofNat n=>
  simp only[f43]at h
  cases hb:H3 n 1000000000000000000 with
  |false=>rw[hb]at h;cases h|true=>rw[hb]at h;cases h;show Gw _ _=_;simp only[Gw,zK,hb,cond_true,qo,below,H9]
def f211 (s:aj):Int->Option aj
 | .ofNat c=>bif H2 c 100000&&H2 (s.length*c) 100000 then E6 (Lib.repeatL s c)else Ha|_=>Ha
theorem zka {s:aj}{c:Int}{r}(h:f211 s c=E6 r):ae aB (X aB) 211 [.str s,.int .i64 c]=E6 (.str r,En):=by
 cases c with
 |negSucc n=>cases h
 |ofNat c=>
  simp only[f211]at h
  cases hb:(H2 c 100000&&H2 (s.length*c) 100000)with
  |false=>rw[hb]at h;cases h|true=>rw[hb]at h;cases h;exact Ch (f:=Kg) rfl (by simp only[Kg,hb,cond_true]) rfl
theorem W5 {r}(h:E5=E6 r):ae aB (X aB) 5 []=E6 (.bool r,En):=by
 cases h;exact Ch (f:=S1) rfl rfl rfl
end Go.Z
set_option maxHeartbeats 4000000
namespace Go.Z
open Go Go.Abs Go.W
def f212 (O:aj)(J:aj):Option Int:=
 cond (decide ((J.length:Int)=0))
  (E6 0)
  (cond (decide (J=O))
   (E6 0)
   (cond (decide ((J.length:Int)=1))
    (qa (qm J 0) fun v4=>
    qa (f256 O (v4.toNat:Int)) fun v6=>
    E6 v6)
    (cond (decide ((O.length:Int)<=(J.length:Int)))
     (E6 (-1))
     (Ha))))
theorem zcd {O:aj}{J:aj}{r}(h:f212 O J=E6 r):ae aB (X aB) 212 [.str O,.str J]=E6 (Iv r,En):=by
 unfold f212 at h;refine zg Ci ?_
 repeat' first|(replace h:=qb h;obtain⟨d,g,h⟩:=h;with_reducible first|replace g:=zey g|skip)|(replace h:=qc h;rcases h with⟨g,h⟩|⟨g,h⟩)
 all_goals (cases h<;>(simp only[go_sem,seval,Ci,VK, *];exact⟨_,rfl⟩))
def f137 (O:aj)(J:aj):Option (aj×aj×Bool):=
 qa (f212 O J) fun v1=>
 cond (decide (0<=v1))
  (qa (fL O Ha (E6 v1)) fun v4=>
  qa (fL O (E6 (qd .i64 (v1+(J.length:Int)))) Ha) fun v6=>
  E6 (v4,v6,Hb))
  (E6 (O,[],En))
theorem zcq {O:aj}{J:aj}{r}(h:f137 O J=E6 r):ae aB (X aB) 137 [.str O,.str J]=E6 (.aJ [.str r.1,.str r.2.1,.bool r.2.2],En):=by
 unfold f137 at h;obtain⟨v1,I,h⟩:=qb h;have gE:ae aB (X aB) 212 [.str O,.str J]=E6 (Iv v1,En):=zcd I;rcases qc h with⟨h3,h⟩|⟨h3,h⟩
 .obtain⟨v4,h5,h⟩:=qb h;obtain⟨v6,h7,h⟩:=qb h;have Q:(v4,v6,Hb)=r:=E6.inj h;subst Q
  have this:∃hh,ai aB (X aB) 137 [.str O,.str J] []=E6 (.aJ [.str v4,.str v6,.bool Hb],En,hh):=by
   rw[qg (show aB.br 137=E6 tJ from rfl) (by simp)];simp only[go_sem,seval,tJ,gE,h3,y8 h5,lU h7];exact⟨_,rfl⟩
  obtain⟨hh,this⟩:=this;exact jr rfl this (by first|rfl|simp only[go_sem,seval]) (by first|rfl|simp only[go_sem,seval])
 .have Q:(O,[],En)=r:=E6.inj h;subst Q
  have this:∃hh,ai aB (X aB) 137 [.str O,.str J] []=E6 (.aJ [.str O,.str [],.bool En],En,hh):=by
   rw[qg (show aB.br 137=E6 tJ from rfl) (by simp)];simp only[go_sem,seval,tJ,gE,h3];exact⟨_,rfl⟩
  obtain⟨hh,this⟩:=this;exact jr rfl this (by first|rfl|simp only[go_sem,seval]) (by first|rfl|simp only[go_sem,seval])
def f52 (O:aj)(J:aj):Option (aj×aj×Bool):=
 qa (f137 O J) fun v1=>
 E6 (v1.1,v1.2.1,v1.2.2)
theorem W52 {O:aj}{J:aj}{r}(h:f52 O J=E6 r):ae aB (X aB) 52 [.str O,.str J]=E6 (.aJ [.str r.1,.str r.2.1,.bool r.2.2],En):=by
 unfold f52 at h;refine zg YA ?_
 repeat' first|(replace h:=qb h;obtain⟨d,g,h⟩:=h;with_reducible first|replace g:=zcq g|skip)|(replace h:=qc h;rcases h with⟨g,h⟩|⟨g,h⟩)
 all_goals (cases h<;>(simp only[go_sem,seval,YA, *];exact⟨_,rfl⟩))
def Cj (O:aj)(V:Int×Int):Option ((Int×Int)⊕((Int×Int))):=
 cond (decide (V.2<(O.length:Int)))
  (qa (qm O V.2) fun v12=>
  qa (jT (qd .i64 ((qd .i64 (313*V.1))+(qd .i64 (v12.toNat:Int)))) 9999889) fun dj=>
  E6 (.inl (dj,qd .i64 (V.2+1))))
  (E6 (.inr (V.1,V.2)))
def Pp (O:aj)(V:Int×Int):bn:=⟨[(0,.str O,En),(3,Iv V.1,En),(7,Iv (O.length:Int),En),(8,Iv V.2,En)],[]⟩
def YB (O:aj)(d:(Int×Int)):jb×bn:=(.exit 0,⟨[(0,.str O,En),(3,Iv d.1,En),(7,Iv (O.length:Int),En),(8,Iv d.2,En),(9,.bool En,En)],[]⟩)
theorem jy3 (O:aj)(V:Int×Int)(r)(h:Cj O V=E6 r):jy aB GK (Pp O) (YB O) V r:=by
 unfold Cj at h;rcases qc h with⟨fK,h⟩|⟨fK,h⟩
 .obtain⟨v12,gv,h⟩:=qb h;obtain⟨dj,rN,h⟩:=qb h;cases h;exact kp (bP:=⟨[(0,.str O,En),(3,Iv dj,En),(7,Iv (O.length:Int),En),(8,Iv (qd .i64 (V.2+1)),En)],[]⟩) (by simp only[go_sem,seval,GK,Pp,fK,nE gv,zz rN]<;>rfl) (jQ (Hc _))
 .cases h;exact qu (by simp only[go_sem,seval,GK,Pp,fK,YB]<;>rfl)
theorem jw0 (O:aj){V:Int×Int}{d}(h:bq (Cj O) V=E6 d):X aB (.loop GK) (Pp O V)=E6 (YB O d):=lT (jy3 O) (fun d hh=>by cases hh) h
def f136 (O:aj):Option aj:=
 qa (bq (Cj O) (1,0)) fun d16=>
 qa (f43 d16.1) fun eT=>
 qa (f211 ([48]:aj) (qd .i64 (7-(eT.length:Int)))) fun v20=>
 qa (gZ v20 eT) fun v22=>
 E6 v22
theorem YC {O:aj}{r}(h:f136 O=E6 r):ae aB (X aB) 136 [.str O]=E6 (.str r,En):=by
 unfold f136 at h;obtain⟨d16,pR,h⟩:=qb h;have YD:X aB (.loop GK) ⟨[(0,.str O,En),(3,Iv 1,En),(7,Iv (O.length:Int),En),(8,Iv 0,En)],[]⟩=E6 (.exit 0,⟨[(0,.str O,En),(3,Iv d16.1,En),(7,Iv (O.length:Int),En),(8,Iv d16.2,En),(9,.bool En,En)],[]⟩):=jw0 O pR;obtain⟨eT,yG,h⟩:=qb h;have YE:ae aB (X aB) 43 [Iv d16.1]=E6 (.str eT,En):=Kz yG;obtain⟨v20,pe,h⟩:=qb h;have xh:ae aB (X aB) 211 [.str ([48]:aj),Iv (qd .i64 (7-(eT.length:Int)))]=E6 (.str v20,En):=zka pe;obtain⟨v22,pf,h⟩:=qb h;have Q:v22=r:=E6.inj h;subst Q
 have this:∃hh,ai aB (X aB) 136 [.str O] []=E6 (.str v22,En,hh):=by
  rw[qg (show aB.br 136=E6 Ck from rfl) (by simp)];simp only[go_sem,seval,Ck,YD,YE,xh,ym pf];exact⟨_,rfl⟩
 obtain⟨hh,this⟩:=this;exact jr rfl this (by first|rfl|simp only[go_sem,seval]) (by first|rfl|simp only[go_sem,seval])
end Go.Z
namespace Go.Z
open Go Go.Abs Go.W
def xi (O:aj)(V:Int×Nat):Option ((Int×Nat)⊕(Nat⊕(Int×Nat))):=
 cond (decide (V.2<O.length))
  (cond (decide (((qj O V.2).1:Int)<48))
   (E6 (.inr (.inl (V.2+(qj O V.2).2))))
   (cond (decide (57<((qj O V.2).1:Int)))
    (E6 (.inr (.inl (V.2+(qj O V.2).2))))
    (E6 (.inl (qd .i64 ((qd .i64 (10*V.1))+(qd .i64 (qd .i32 (((qj O V.2).1:Int)-48)))),V.2+(qj O V.2).2)))))
  (E6 (.inr (.inr (V.1,V.2))))
def Pq (O:aj)(V:Int×Nat):bn:=⟨[(4,Iv V.1,En),(25,.ptr 0 0,En)],[.iter O V.2]⟩
def Pr (O:aj):Nat⊕(Int×Nat)->jb×bn
 | .inl d=>(.ret,⟨[(2,Iv 0,En),(3,.bool En,En)],[.iter O d]⟩)| .inr d=>(.exit 0,⟨[(4,Iv d.1,En),(25,.ptr 0 0,En),(26,.aJ [.bool En],En),(27,.bool En,En)],[.iter O d.2]⟩)
theorem j11 (O:aj)(V:Int×Nat)(r)(h:xi O V=E6 r):jy aB Cl (Pq O) (Pr O) V r:=by
 unfold xi at h
 repeat' first|(replace h:=qc h;rcases h with⟨g,h⟩|⟨g,h⟩)
 all_goals (cases h<;>((first|refine qu ?_|refine jz ?_);simp only[go_sem,seval,Cl,Pq,yJ,Pr, *]<;>rfl))
theorem jxu (O:aj){V:Int×Nat}{d}(h:bq (xi O) V=E6 d):X aB (.loop Cl) (Pq O V)=E6 (Pr O d):=lT (j11 O) (fun d=>by rcases d with d|d<;>(intro hh;cases hh)) h
def KA (O:aj)(V:Int×Nat):Option ((Int×Nat)⊕(Nat⊕(Int×Nat))):=
 cond (decide (V.2<O.length))
  (cond (decide (((qj O V.2).1:Int)<48))
   (E6 (.inr (.inl (V.2+(qj O V.2).2))))
   (cond (decide (57<((qj O V.2).1:Int)))
    (E6 (.inr (.inl (V.2+(qj O V.2).2))))
    (E6 (.inl (qd .i64 ((qd .i64 (10*V.1))+(qd .i64 (qd .i32 (((qj O V.2).1:Int)-48)))),V.2+(qj O V.2).2)))))
  (E6 (.inr (.inr (V.1,V.2))))
def Ps (O:aj)(V:Int×Nat):bn:=⟨[(4,Iv V.1,En),(25,.ptr 0 0,En)],[.iter O V.2]⟩
def Pt (O:aj):Nat⊕(Int×Nat)->jb×bn
 | .inl d=>(.ret,⟨[(2,Iv 0,En),(3,.bool En,En)],[.iter O d]⟩)| .inr d=>(.exit 0,⟨[(4,Iv d.1,En),(25,.ptr 0 0,En),(26,.aJ [.bool En],En),(27,.bool En,En)],[.iter O d.2]⟩)
theorem js7 (O:aj)(V:Int×Nat)(r)(h:KA O V=E6 r):jy aB Cl (Ps O) (Pt O) V r:=by
 unfold KA at h
 repeat' first|(replace h:=qc h;rcases h with⟨g,h⟩|⟨g,h⟩)
 all_goals (cases h<;>((first|refine qu ?_|refine jz ?_);simp only[go_sem,seval,Cl,Ps,yJ,Pt, *]<;>rfl))
theorem jtl (O:aj){V:Int×Nat}{d}(h:bq (KA O) V=E6 d):X aB (.loop Cl) (Ps O V)=E6 (Pt O d):=lT (js7 O) (fun d=>by rcases d with d|d<;>(intro hh;cases hh)) h
def f123 (O:aj):Option (Int×Bool):=
 cond (decide (O=[]))
  (E6 (0,En))
  (cond (decide (9<(O.length:Int)))
   (E6 (0,En))
   (cond (decide (1<(O.length:Int)))
    (qa (qm O 0) fun v4=>
    cond (decide ((v4.toNat:Int)=48))
     (E6 (0,En))
     (qa (bq (xi O) (0,0)) fun d16=>match d16 with
      | .inl d18=>
       E6 (0,En)
      | .inr d19=>
       E6 (d19.1,Hb)))
    (qa (bq (KA O) (0,0)) fun d29=>match d29 with
     | .inl d31=>
      E6 (0,En)
     | .inr d32=>
      E6 (d32.1,Hb))))
theorem jyh {O:aj}{r}(h:f123 O=E6 r):ae aB (X aB) 123 [.str O]=E6 (.aJ [Iv r.1,.bool r.2],En):=by
 unfold f123 at h;refine zg Cm ?_
 repeat' first|(replace h:=qb h;obtain⟨d,g,h⟩:=h;with_reducible first|(replace g:=jxu O g;rcases d with d|d<;>dsimp only[Pq,Pr,zr]at g h)|(replace g:=jtl O g;rcases d with d|d<;>dsimp only[Ps,Pt,zr]at g h)|skip)|(replace h:=qc h;rcases h with⟨g,h⟩|⟨g,h⟩)
 all_goals (cases h<;>(simp only[go_sem,seval,Cm,VK, *];exact⟨_,rfl⟩))
end Go.Z
namespace Go.Z
open Go Go.Abs Go.W
def f139 (O:Int):Option Bool:=
 cond (decide (O<48))
  (E6 Hb)
  (E6 (decide (57<O)))
theorem jv8 (hp:qf){O:Int}{r}(h:f139 O=E6 r):ai aB (X aB) 139 [.int .i32 O] hp=E6 (.bool r,En,hp):=by
 unfold f139 at h;rw[qg (show aB.br 139=E6 Cn from rfl) (by simp)]
 repeat' first|(replace h:=qc h;rcases h with⟨g,h⟩|⟨g,h⟩)
 all_goals (cases h<;>(simp only[go_sem,seval,Cn, *]<;>rfl))
def Co (O:aj)(a2:Bool):Option (Option (Bool×Int×Nat)⊕((Int×Nat)⊕(Bool×Nat))):=
 cond (decide (0<O.length))
  (qa (f139 ((qj O 0).1:Int)) fun ou=>
  cond ou
   (cond a2
    (E6 (.inr (.inl ((0:Int),0+(qj O 0).2))))
    (E6 (.inl (E6 (En,(0:Int),0+(qj O 0).2)))))
   (cond a2
    (E6 (.inl (E6 (Hb,(0:Int),0+(qj O 0).2))))
    (E6 (.inr (.inl ((0:Int),0+(qj O 0).2))))))
  (E6 (.inr (.inr (a2,0))))
def xj (O:aj)(a2:Bool)(V:Bool×Int×Nat):Option (Option (Bool×Int×Nat)⊕((Int×Nat)⊕(Bool×Nat))):=
 cond (decide (V.2.2<O.length))
  (qa (f139 ((qj O V.2.2).1:Int)) fun eu=>
  cond eu
   (cond V.1
    (E6 (.inr (.inl ((V.2.2:Int),V.2.2+(qj O V.2.2).2))))
    (E6 (.inl (E6 (En,(V.2.2:Int),V.2.2+(qj O V.2.2).2)))))
   (cond V.1
    (E6 (.inl (E6 (Hb,(V.2.2:Int),V.2.2+(qj O V.2.2).2))))
    (E6 (.inr (.inl ((V.2.2:Int),V.2.2+(qj O V.2.2).2))))))
  (E6 (.inr (.inr (V.1,V.2.2))))
def KB (O:aj)(a2:Bool):Option (Bool×Int×Nat)->Option (Option (Bool×Int×Nat)⊕((Int×Nat)⊕(Bool×Nat)))
 |none=>Co O a2|some x=>xj O a2 x
def YF (O:aj)(a2:Bool)(V:Bool×Int×Nat):bn:=⟨[(1,.fn (.func 139) [] [],En),(2,.bool V.1,En),(7,Iv V.2.1,En),(10,.ptr 0 0,En),(19,.bool En,En)],[.iter O V.2.2]⟩
def Cp (O:aj)(a2:Bool):Option (Bool×Int×Nat)->bn
 |none=>⟨[(1,.fn (.func 139) [] [],En),(2,.bool a2,En),(10,.ptr 0 0,En)],[.iter O 0]⟩|some x=>YF O a2 x
def Cq (O:aj)(a2:Bool):(Int×Nat)⊕(Bool×Nat)->jb×bn
 | .inl d=>(.ret,⟨[(6,Iv d.1,En)],[.iter O d.2]⟩)| .inr d=>(.exit 0,⟨[(1,.fn (.func 139) [] [],En),(2,.bool d.1,En),(10,.ptr 0 0,En),(11,.aJ [.bool En],En),(12,.bool En,En)],[.iter O d.2]⟩)
theorem jt5 (O:aj)(a2:Bool)(r)(h:Co O a2=E6 r):jy aB Cr (Cp O a2) (Cq O a2) Ha r:=by
 unfold Co at h
 repeat' first|(replace h:=qb h;obtain⟨d,g,h⟩:=h;with_reducible first|replace g:=jv8 [.iter O (0+(qj O 0).2)] g|skip)|(replace h:=qc h;rcases h with⟨g,h⟩|⟨g,h⟩)
 all_goals (cases h<;>((first|refine qu ?_|refine jz ?_);simp only[go_sem,seval,Cr,Cp,YF,yJ,Ia,H4,Ib,H8,Ic,Cq, *]<;>rfl))
theorem jrv (O:aj)(a2:Bool)(V:Bool×Int×Nat)(r)(h:xj O a2 V=E6 r):jy aB Cr (Cp O a2) (Cq O a2) (E6 V) r:=by
 unfold xj at h
 repeat' first|(replace h:=qb h;obtain⟨d,g,h⟩:=h;with_reducible first|replace g:=jv8 [.iter O (V.2.2+(qj O V.2.2).2)] g|skip)|(replace h:=qc h;rcases h with⟨g,h⟩|⟨g,h⟩)
 all_goals (cases h<;>((first|refine qu ?_|refine jz ?_);simp only[go_sem,seval,Cr,Cp,YF,yJ,Ia,H4,Ib,H8,Ic,Cq, *]<;>rfl))
theorem jyv (O:aj)(a2:Bool):∀(x:Option (Bool×Int×Nat)) (r) (h:KB O a2 x=E6 r),jy aB Cr (Cp O a2) (Cq O a2) x r
 |none,r,h=>jt5 O a2 r h|some x,r,h=>jrv O a2 x r h
theorem jz6 (O:aj)(a2:Bool){V:Option (Bool×Int×Nat)}{d}(h:bq (KB O a2) V=E6 d):X aB (.loop Cr) (Cp O a2 V)=E6 (Cq O a2 d):=lT (jyv O a2) (fun d=>by rcases d with d|d<;>(intro hh;cases hh)) h
def f260 (O:aj)(a2:Bool):Option Int:=
 qa (bq (KB O a2) Ha) fun d40=>match d40 with
  | .inl d42=>
   E6 d42.1
  | .inr d43=>
   E6 (-1)
theorem zcj {O:aj}{a2:Bool}{r}(h:f260 O a2=E6 r):ae aB (X aB) 260 [.str O,.fn (.func 139) [] [],.bool a2]=E6 (Iv r,En):=by
 unfold f260 at h;refine zg Cs ?_
 repeat' first|(replace h:=qb h;obtain⟨d,g,h⟩:=h;with_reducible first|(replace g:=jz6 O a2 g;rcases d with d|d<;>dsimp only[Cp,Cq,zr]at g h)|skip)|(replace h:=qc h;rcases h with⟨g,h⟩|⟨g,h⟩)
 all_goals (cases h<;>(simp only[go_sem,seval,Cs, *];exact⟨_,rfl⟩))
def f213 (O:aj):Option Int:=
 qa (f260 O Hb) fun v1=>
 E6 v1
theorem zfo {O:aj}{r}(h:f213 O=E6 r):ae aB (X aB) 213 [.str O,.fn (.func 139) [] []]=E6 (Iv r,En):=by
 unfold f213 at h;refine zg Ct ?_
 repeat' first|(replace h:=qb h;obtain⟨d,g,h⟩:=h;with_reducible first|replace g:=zcj g|skip)|(replace h:=qc h;rcases h with⟨g,h⟩|⟨g,h⟩)
 all_goals (cases h<;>(simp only[go_sem,seval,Ct, *];exact⟨_,rfl⟩))
def f138 (O:aj):Option Bool:=
 qa (f213 O) fun v1=>
 E6 (decide (0<=v1))
theorem zjc {O:aj}{r}(h:f138 O=E6 r):ae aB (X aB) 138 [.str O,.fn (.func 139) [] []]=E6 (.bool r,En):=by
 unfold f138 at h;refine zg Cu ?_
 repeat' first|(replace h:=qb h;obtain⟨d,g,h⟩:=h;with_reducible first|replace g:=zfo g|skip)|(replace h:=qc h;rcases h with⟨g,h⟩|⟨g,h⟩)
 all_goals (cases h<;>(simp only[go_sem,seval,Cu, *];exact⟨_,rfl⟩))
def zP (O:ak Int)(V:(ak aj)×Int×Bool):Option (((ak aj)×Int×Bool)⊕(((ak aj)×Bool×Int))):=
 cond (decide (V.2.1<((O.getD []).length:Int)))
  (qa (qm (O.getD []) V.2.1) fun eT=>
  qa (f43 eT) fun v20=>
  cond V.2.2
   (qa (bC V.1 [v20]) fun v23=>
   E6 (.inl (v23,qd .i64 (V.2.1+1),Hb)))
   (cond V.1.isNone
    (qa (bC V.1 [v20]) fun v26=>
    E6 (.inl (v26,qd .i64 (V.2.1+1),Hb)))
    (Ha)))
  (E6 (.inr (V.1,V.2.2,V.2.1)))
def Pu (O:ak Int)(V:(ak aj)×Int×Bool):bn:=⟨[(1,.fn (.func 43) [] [],En),(5,sl 1 jf V.1,V.2.2),(8,sl 1 jt O,En),(9,Lv O,En),(10,Iv V.2.1,En)],[]⟩
def Pv (O:ak Int)(d:((ak aj)×Bool×Int)):jb×bn:=(.exit 0,⟨[(1,.fn (.func 43) [] [],En),(5,sl 1 jf d.1,d.2.1),(8,sl 1 jt O,En),(9,Lv O,En),(10,Iv d.2.2,En),(11,.bool En,En)],[]⟩)
theorem j0w (O:ak Int)(V:(ak aj)×Int×Bool)(r)(h:zP O V=E6 r):jy aB Px (Pu O) (Pv O) V r:=by
 unfold zP at h
 repeat' first|(replace h:=qb h;obtain⟨d,g,h⟩:=h;with_reducible first|replace g:=zik [] g|replace g:=F5 g|skip)|(replace h:=qc h;rcases h with⟨g,h⟩|⟨g,h⟩)
 all_goals (cases h<;>((first|refine qu ?_|refine jz ?_);simp only[go_sem,seval,Px,Pu,jq,Pv, *]<;>rfl))
theorem jxa (O:ak Int){V:(ak aj)×Int×Bool}{d}(h:bq (zP O) V=E6 d):X aB (.loop Px) (Pu O V)=E6 (Pv O d):=lT (j0w O) (fun d hh=>by cases hh) h
def f210 (O:ak Int):Option ((ak aj)×Bool):=
 qa (bq (zP O) (Ha,0,En)) fun d28=>
 E6 (d28.1,d28.2.1)
theorem ziq {O:ak Int}{r}(h:f210 O=E6 r):ae aB (X aB) 210 [sl 1 jt O,.fn (.func 43) [] []]=E6 (sl 1 jf r.1,r.2):=by
 unfold f210 at h;refine yq Cv ?_
 repeat' first|(replace h:=qb h;obtain⟨d,g,h⟩:=h;with_reducible first|(replace g:=jxa O g;dsimp only[Pu,Pv,zr]at g h)|skip)|(replace h:=qc h;rcases h with⟨g,h⟩|⟨g,h⟩)
 all_goals (cases h<;>(simp only[go_sem,seval,Cv, *];exact⟨_,rfl⟩))
def f135 (O:GEv):Option aj:=
 qa (f43 O.number) fun v1=>
 qa (bC (E6 [v1,O.kind]) (O.names.getD [])) fun v3=>
 qa (f210 O.values) fun v5=>
 qa (bC v3 (v5.1.getD [])) fun v7=>
 qa (f47 v7 ([32]:aj)) fun v9=>
 E6 v9
theorem j0m {O:GEv}{r}(h:f135 O=E6 r):ae aB (X aB) 135 [aE O]=E6 (.str r,En):=by
 unfold f135 at h;obtain⟨v1,I,h⟩:=qb h;have gE:ae aB (X aB) 43 [Iv O.number]=E6 (.str v1,En):=Kz I;obtain⟨v3,h4,h⟩:=qb h;obtain⟨v5,h6,h⟩:=qb h;have qG:ae aB (X aB) 210 [sl 1 jt O.values,.fn (.func 43) [] []]=E6 (sl 1 jf v5.1,v5.2):=ziq h6;obtain⟨v7,h8,h⟩:=qb h;obtain⟨v9,et,h⟩:=qb h;have YG:ae aB (X aB) 47 [sl 1 jf v7,.str ([32]:aj)]=E6 (.str v9,En):=GJ et;have Q:v9=r:=E6.inj h;subst Q
 have this:∃hh,ai aB (X aB) 135 [aE O] []=E6 (.str v9,En,hh):=by
  rw[qg (show aB.br 135=E6 Cw from rfl) (by simp)];simp only[go_sem,seval,Cw,gE,(show ∀(b t:Nat) (hq:qf),bR 1 b hq (E6 t) (E6 (.list En 1 [.str v1,.str O.kind])) (E6 (sl 1 jf O.names))=cm (decide (b<=4096)) (E6 ⟨sl 1 jf v3,Hb,E6 t,hq⟩)from fun _ _ _=>WI (o:=E6 [v1,O.kind]) h4),qG,WI h8,YG];exact⟨_,rfl⟩
 obtain⟨hh,this⟩:=this;exact jr rfl this (by first|rfl|simp only[go_sem,seval]) (by first|rfl|simp only[go_sem,seval])
def f49 (O:GEv):Option aj:=
 qa (f135 O) fun v1=>
 qa (gZ v1 ([35]:aj)) fun v3=>
 qa (f136 v1) fun v5=>
 qa (gZ v3 v5) fun v7=>
 qa (gZ v7 ([10]:aj)) fun v9=>
 E6 v9
theorem W49 {O:GEv}{r}(h:f49 O=E6 r):ae aB (X aB) 49 [aE O]=E6 (.str r,En):=by
 unfold f49 at h;obtain⟨v1,I,h⟩:=qb h;have gE:ae aB (X aB) 135 [aE O]=E6 (.str v1,En):=j0m I;obtain⟨v3,h4,h⟩:=qb h;obtain⟨v5,h6,h⟩:=qb h;have qG:ae aB (X aB) 136 [.str v1]=E6 (.str v5,En):=YC h6;obtain⟨v7,h8,h⟩:=qb h;obtain⟨v9,et,h⟩:=qb h;have Q:v9=r:=E6.inj h;subst Q
 have this:∃hh,ai aB (X aB) 49 [aE O] []=E6 (.str v9,En,hh):=by
  rw[qg (show aB.br 49=E6 KC from rfl) (by simp)];simp only[go_sem,seval,KC,gE,ym h4,qG,ym h8,ym et];exact⟨_,rfl⟩
 obtain⟨hh,this⟩:=this;exact jr rfl this (by first|rfl|simp only[go_sem,seval]) (by first|rfl|simp only[go_sem,seval])
end Go.Z
namespace Go.Z
open Go Go.Abs Go.W
theorem zfy {O:ak aj}{J:aj}{r}(h:f63 O J=E6 r):ae aB (X aB) 63 [sl 1 jf O,.str J]=E6 (.bool r,En):=aF.ae (Py h)
theorem jzy {O:ak Int}{r}(h:f35 O=E6 r):ae aB (X aB) 35 [sl 1 jt O]=E6 (Iv r,En):=aF.ae (fY h)
theorem YH {O:Bool}{J:Int}{r}(h:f36 O J=E6 r):ae aB (X aB) 36 [.bool O,Iv J]=E6 (Iv r,En):=aF.ae (dE h)
theorem j1h {O:GEv}{r}(h:f41 O=E6 r):ae aB (X aB) 41 [aE O]=E6 (Iv r,En):=aF.ae (KD h)
theorem j6v {O:ak aj}{r}(h:f120 O=E6 r):ae aB (X aB) 120 [sl 1 jf O]=E6 (sl 1 jf r.1,r.2):=aF.ae (jx0 h)
@[go_sem] theorem zhp:aB.maps 39=E6 jd:=rfl
def f122 (O:aj)(dR:Bool):Option (Int×Bool):=
 qa (f123 O) fun v1=>
 cond dR
  (E6 (v1.1,v1.2))
  (E6 (v1.1,En))
theorem zjl {O:aj}{dR:Bool}{x0:aK}{x1:aK}{x2:aK}{r}(h:f122 O dR=E6 r):ai aB (X aB) 122 [.str O,.ptr 3 0] [x0,x1,x2,.cells [(.bool dR,En)]]=E6 (Iv r.1,En,[x0,x1,x2,.cells [(.bool r.2,En)]]):=by
 unfold f122 at h;rw[qg (show aB.br 122=E6 Cx from rfl) (by simp)]
 repeat' first|(replace h:=qb h;obtain⟨d,g,h⟩:=h;with_reducible first|replace g:=jyh g|skip)|(replace h:=qc h;rcases h with⟨g,h⟩|⟨g,h⟩)
 all_goals (cases h<;>(simp only[go_sem,seval,Cx, *]<;>rfl))
def zQ (O:ak aj)(V:(ak Int)×Int×Bool×Bool):Option (((ak Int)×Int×Bool×Bool)⊕(((ak Int)×Bool×Int×Bool))):=
 cond (decide (V.2.1<((O.getD []).length:Int)))
  (qa (qm (O.getD []) V.2.1) fun eT=>
  qa (f122 eT V.2.2.1) fun v20=>
  cond V.2.2.2
   (qa (bC V.1 [v20.1]) fun v23=>
   E6 (.inl (v23,qd .i64 (V.2.1+1),v20.2,Hb)))
   (cond V.1.isNone
    (qa (bC V.1 [v20.1]) fun v26=>
    E6 (.inl (v26,qd .i64 (V.2.1+1),v20.2,Hb)))
    (Ha)))
  (E6 (.inr (V.1,V.2.2.2,V.2.1,V.2.2.1)))
def GL (O:ak aj)(x0:aK)(x1:aK)(x2:aK)(V:(ak Int)×Int×Bool×Bool):bn:=⟨[(1,.fn (.func 122) [] [.ptr 3 0],En),(5,sl 1 jt V.1,V.2.2.2),(8,sl 1 jf O,En),(9,Lv O,En),(10,Iv V.2.1,En)],[x0,x1,x2,.cells [(.bool V.2.2.1,En)]]⟩
def Pz (O:ak aj)(x0:aK)(x1:aK)(x2:aK)(d:((ak Int)×Bool×Int×Bool)):jb×bn:=(.exit 0,⟨[(1,.fn (.func 122) [] [.ptr 3 0],En),(5,sl 1 jt d.1,d.2.1),(8,sl 1 jf O,En),(9,Lv O,En),(10,Iv d.2.2.1,En),(11,.bool En,En)],[x0,x1,x2,.cells [(.bool d.2.2.2,En)]]⟩)
theorem j17 (O:ak aj)(x0:aK)(x1:aK)(x2:aK)(V:(ak Int)×Int×Bool×Bool)(r)(h:zQ O V=E6 r):jy aB GM (GL O x0 x1 x2) (Pz O x0 x1 x2) V r:=by
 unfold zQ at h;rcases qc h with⟨pR,h⟩|⟨pR,h⟩
 .obtain⟨eT,yG,h⟩:=qb h;obtain⟨v20,pe,h⟩:=qb h;have xh:ai aB (X aB) 122 [.str eT,.ptr 3 0] [x0,x1,x2,.cells [(.bool V.2.2.1,En)]]=E6 (Iv v20.1,En,[x0,x1,x2,.cells [(.bool v20.2,En)]]):=zjl pe;rcases qc h with⟨nz,h⟩|⟨nz,h⟩
  .obtain⟨v23,wG,h⟩:=qb h;cases h;exact kp (bP:=⟨[(1,.fn (.func 122) [] [.ptr 3 0],En),(5,sl 1 jt v23,Hb),(8,sl 1 jf O,En),(9,Lv O,En),(10,Iv (qd .i64 (V.2.1+1)),En)],[x0,x1,x2,.cells [(.bool v20.2,En)]]⟩) (by simp only[go_sem,seval,GM,GL,pR,jm yG,xh,nz,VM wG]<;>rfl) (jQ (Hc _))
  .rcases qc h with⟨wH,h⟩|⟨wH,h⟩
   .obtain⟨v26,ot,h⟩:=qb h;cases h;exact kp (bP:=⟨[(1,.fn (.func 122) [] [.ptr 3 0],En),(5,sl 1 jt v26,Hb),(8,sl 1 jf O,En),(9,Lv O,En),(10,Iv (qd .i64 (V.2.1+1)),En)],[x0,x1,x2,.cells [(.bool v20.2,En)]]⟩) (by simp only[go_sem,seval,GM,GL,pR,jm yG,xh,nz,wH,VN ot wH]<;>rfl) (jQ (Hc _))
   .cases h
 .cases h;exact qu (by simp only[go_sem,seval,GM,GL,pR,Pz]<;>rfl)
theorem j0n (O:ak aj)(x0:aK)(x1:aK)(x2:aK){V:(ak Int)×Int×Bool×Bool}{d}(h:bq (zQ O) V=E6 d):X aB (.loop GM) (GL O x0 x1 x2 V)=E6 (Pz O x0 x1 x2 d):=lT (j17 O x0 x1 x2) (fun d hh=>by cases hh) h
def f121 (O:ak aj)(dR:Bool):Option ((ak Int)×Bool×Bool):=
 qa (bq (zQ O) (Ha,0,dR,En)) fun d28=>
 E6 (d28.1,d28.2.1,d28.2.2.2)
theorem zhc {O:ak aj}{dR:Bool}{x0:aK}{x1:aK}{x2:aK}{r}(h:f121 O dR=E6 r):ai aB (X aB) 121 [sl 1 jf O,.fn (.func 122) [] [.ptr 3 0]] [x0,x1,x2,.cells [(.bool dR,En)]]=E6 (sl 1 jt r.1,r.2.1,[x0,x1,x2,.cells [(.bool r.2.2,En)]]):=by
 unfold f121 at h;rw[qg (show aB.br 121=E6 Cy from rfl) (by simp)]
 repeat' first|(replace h:=qb h;obtain⟨d,g,h⟩:=h;with_reducible first|(replace g:=j0n O x0 x1 x2 g;dsimp only[GL,Pz,zr]at g h)|skip)|(replace h:=qc h;rcases h with⟨g,h⟩|⟨g,h⟩)
 all_goals (cases h<;>(simp only[go_sem,seval,Cy, *]<;>rfl))
def f40 (O:ak aj)(J:Int):Option (GEv×Bool):=
 qa (qm (O.getD []) 0) fun v1=>
 cond (mC v1)
  (cond (decide (((O.getD []).length:Int)=(qd .i64 ((qd .i64 (1+((zb v1).length:Int)))+(mA v1)))))
   (qa (f63 O []) fun v5=>
   cond v5
    (E6 (⟨0,[],Ha,Ha,[]⟩,En))
    (qa (jB O (E6 1) (E6 (qd .i64 (1+((zb v1).length:Int))))) fun v8=>
    qa (f120 v8) fun v10=>
    qa (jB O (E6 (qd .i64 (1+((zb v1).length:Int)))) Ha) fun v12=>
    qa (f121 v12 Hb) fun dj=>
    cond dj.2.1
     (E6 (⟨J,v1,v10.1,dj.1,[]⟩,dj.2.2))
     (E6 (⟨J,v1,v10.1,dj.1,[]⟩,dj.2.2))))
   (E6 (⟨0,[],Ha,Ha,[]⟩,En)))
  (E6 (⟨0,[],Ha,Ha,[]⟩,En))
theorem KE {O:ak aj}{J:Int}{r}(h:f40 O J=E6 r):ae aB (X aB) 40 [sl 1 jf O,Iv J]=E6 (.aJ [aE r.1,.bool r.2],En):=by
 unfold f40 at h;obtain⟨v1,I,h⟩:=qb h;rcases qc h with⟨h3,h⟩|⟨h3,h⟩
 .rcases qc h with⟨h4,h⟩|⟨h4,h⟩
  .obtain⟨v5,h6,h⟩:=qb h;have qG:ae aB (X aB) 63 [sl 1 jf O,.str []]=E6 (.bool v5,En):=zfy h6;rcases qc h with⟨h7,h⟩|⟨h7,h⟩
   .have Q:(⟨0,[],Ha,Ha,[]⟩,En)=r:=E6.inj h;subst Q
    have this:∃hh,ai aB (X aB) 40 [sl 1 jf O,Iv J] []=E6 (.aJ [.agg [Iv 0,.str [],Nl,Nl,.str []],.bool En],En,hh):=by
     rw[qg (show aB.br 40=E6 rS from rfl) (by simp)];simp only[go_sem,seval,rS,jm I,tn,h3,h4,qG,h7];exact⟨_,rfl⟩
    obtain⟨hh,this⟩:=this;exact jr rfl this (by first|rfl|simp only[go_sem,seval]) (by first|rfl|simp only[go_sem,seval])
   .obtain⟨v8,h9,h⟩:=qb h;obtain⟨v10,fK,h⟩:=qb h;have tK:ae aB (X aB) 120 [sl 1 jf v8]=E6 (sl 1 jf v10.1,v10.2):=j6v fK;obtain⟨v12,gv,h⟩:=qb h;obtain⟨dj,rN,h⟩:=qb h;have xk:ai aB (X aB) 121 [sl 1 jf v12,.fn (.func 122) [] [.ptr 3 0]] [.cells [(Iv 0,En),(.str [],En),(Nl,En),(Nl,En),(.str [],En)],.map jd,.cells [(Iv J,En),(.str v1,En),(sl 1 jf v10.1,En),(Nl,En),(.str [],En)],.cells [(.bool Hb,En)]]=E6 (sl 1 jt dj.1,dj.2.1,[.cells [(Iv 0,En),(.str [],En),(Nl,En),(Nl,En),(.str [],En)],.map jd,.cells [(Iv J,En),(.str v1,En),(sl 1 jf v10.1,En),(Nl,En),(.str [],En)],.cells [(.bool dj.2.2,En)]]):=zhc rN;rcases qc h with⟨kF,h⟩|⟨kF,h⟩
    .rw[kF]at xk;have Q:(⟨J,v1,v10.1,dj.1,[]⟩,dj.2.2)=r:=E6.inj h;subst Q
     have this:∃hh,ai aB (X aB) 40 [sl 1 jf O,Iv J] []=E6 (.aJ [.agg [Iv J,.str v1,sl 1 jf v10.1,sl 1 jt dj.1,.str []],.bool dj.2.2],En,hh):=by
      rw[qg (show aB.br 40=E6 rS from rfl) (by simp)];simp only[go_sem,seval,rS,jm I,tn,h3,h4,qG,h7,q79 h9,tK,tD gv,xk,kF];exact⟨_,rfl⟩
     obtain⟨hh,this⟩:=this;exact jr rfl this (by first|rfl|simp only[go_sem,seval]) (by first|rfl|simp only[go_sem,seval])
    .rw[kF]at xk;have Q:(⟨J,v1,v10.1,dj.1,[]⟩,dj.2.2)=r:=E6.inj h;subst Q
     have this:∃hh,ai aB (X aB) 40 [sl 1 jf O,Iv J] []=E6 (.aJ [.agg [Iv J,.str v1,sl 1 jf v10.1,sl 1 jt dj.1,.str []],.bool dj.2.2],En,hh):=by
      rw[qg (show aB.br 40=E6 rS from rfl) (by simp)];simp only[go_sem,seval,rS,jm I,tn,h3,h4,qG,h7,q79 h9,tK,tD gv,xk,kF];exact⟨_,rfl⟩
     obtain⟨hh,this⟩:=this;exact jr rfl this (by first|rfl|simp only[go_sem,seval]) (by first|rfl|simp only[go_sem,seval])
  .have Q:(⟨0,[],Ha,Ha,[]⟩,En)=r:=E6.inj h;subst Q
   have this:∃hh,ai aB (X aB) 40 [sl 1 jf O,Iv J] []=E6 (.aJ [.agg [Iv 0,.str [],Nl,Nl,.str []],.bool En],En,hh):=by
    rw[qg (show aB.br 40=E6 rS from rfl) (by simp)];simp only[go_sem,seval,rS,jm I,tn,h3,h4];exact⟨_,rfl⟩
   obtain⟨hh,this⟩:=this;exact jr rfl this (by first|rfl|simp only[go_sem,seval]) (by first|rfl|simp only[go_sem,seval])
 .have Q:(⟨0,[],Ha,Ha,[]⟩,En)=r:=E6.inj h;subst Q
  have this:∃hh,ai aB (X aB) 40 [sl 1 jf O,Iv J] []=E6 (.aJ [.agg [Iv 0,.str [],Nl,Nl,.str []],.bool En],En,hh):=by
   rw[qg (show aB.br 40=E6 rS from rfl) (by simp)];simp only[go_sem,seval,rS,jm I,tn,h3];exact⟨_,rfl⟩
  obtain⟨hh,this⟩:=this;exact jr rfl this (by first|rfl|simp only[go_sem,seval]) (by first|rfl|simp only[go_sem,seval])
def f140 (O:aj):Option (GEv×Bool):=
 qa (f52 O ([32]:aj)) fun v1=>
 qa (f123 v1.1) fun v3=>
 cond v1.2.2
  (cond v3.2
   (qa (f19 v1.2.1 ([32]:aj)) fun v7=>
   qa (f40 v7 v3.1) fun v9=>
   cond v9.2
    (qa (f41 v9.1) fun v12=>
    E6 (v9.1,decide (v12=0)))
    (E6 (v9.1,En)))
   (E6 (⟨0,[],Ha,Ha,[]⟩,En)))
  (E6 (⟨0,[],Ha,Ha,[]⟩,En))
theorem zju {O:aj}{r}(h:f140 O=E6 r):ae aB (X aB) 140 [.str O]=E6 (.aJ [aE r.1,.bool r.2],En):=by
 unfold f140 at h;refine zg Cz ?_
 repeat' first|(replace h:=qb h;obtain⟨d,g,h⟩:=h;with_reducible first|replace g:=W52 g|replace g:=jyh g|replace g:=zO g|replace g:=KE g|replace g:=j1h g|skip)|(replace h:=qc h;rcases h with⟨g,h⟩|⟨g,h⟩)
 all_goals (cases h<;>(simp only[go_sem,seval,Cz, *];exact⟨_,rfl⟩))
def f53 (O:aj)(J:Int):Option (GEv×Int):=
 cond (decide ((qd .i64 ((O.length:Int)-8))<0))
  (E6 (⟨0,[],Ha,Ha,[]⟩,26))
  (qa (qm O (qd .i64 ((O.length:Int)-8))) fun v2=>
  cond (decide ((v2.toNat:Int)=35))
   (qa (fL O (E6 (qd .i64 ((qd .i64 ((O.length:Int)-8))+1))) Ha) fun v5=>
   qa (f138 v5) fun v7=>
   cond v7
    (E6 (⟨0,[],Ha,Ha,[]⟩,26))
    (qa (fL O Ha (E6 (qd .i64 ((O.length:Int)-8)))) fun v10=>
    qa (f136 v10) fun v12=>
    cond (decide (v5=v12))
     (qa (f140 v10) fun dL=>
     qa (f36 (!dL.2) 26) fun fj=>
     qa (f36 (!decide (dL.1.number=(qd .i64 (J+1)))) 11) fun ln=>
     qa (f35 (E6 [fj,ln])) fun v21=>
     cond (decide (v21=0))
      (E6 (dL.1,0))
      (E6 (⟨0,[],Ha,Ha,[]⟩,v21)))
     (E6 (⟨0,[],Ha,Ha,[]⟩,28))))
   (E6 (⟨0,[],Ha,Ha,[]⟩,26)))
theorem W53 {O:aj}{J:Int}{r}(h:f53 O J=E6 r):ae aB (X aB) 53 [.str O,Iv J]=E6 (.aJ [aE r.1,Iv r.2],En):=by
 unfold f53 at h;rcases qc h with⟨Y,h⟩|⟨Y,h⟩
 .have Q:(⟨0,[],Ha,Ha,[]⟩,26)=r:=E6.inj h;subst Q
  have this:∃hh,ai aB (X aB) 53 [.str O,Iv J] []=E6 (.aJ [.agg [Iv 0,.str [],Nl,Nl,.str []],Iv 26],En,hh):=by
   rw[qg (show aB.br 53=E6 qH from rfl) (by simp)];simp only[go_sem,seval,qH,Y];exact⟨_,rfl⟩
  obtain⟨hh,this⟩:=this;exact jr rfl this (by first|rfl|simp only[go_sem,seval]) (by first|rfl|simp only[go_sem,seval])
 .obtain⟨v2,h3,h⟩:=qb h;rcases qc h with⟨h4,h⟩|⟨h4,h⟩
  .obtain⟨v5,h6,h⟩:=qb h;obtain⟨v7,h8,h⟩:=qb h;have rT:ae aB (X aB) 138 [.str v5,.fn (.func 139) [] []]=E6 (.bool v7,En):=zjc h8;rcases qc h with⟨h9,h⟩|⟨h9,h⟩
   .have Q:(⟨0,[],Ha,Ha,[]⟩,26)=r:=E6.inj h;subst Q
    have this:∃hh,ai aB (X aB) 53 [.str O,Iv J] []=E6 (.aJ [.agg [Iv 0,.str [],Nl,Nl,.str []],Iv 26],En,hh):=by
     rw[qg (show aB.br 53=E6 qH from rfl) (by simp)];simp only[go_sem,seval,qH,Y,nE h3,h4,lU h6,rT,h9];exact⟨_,rfl⟩
    obtain⟨hh,this⟩:=this;exact jr rfl this (by first|rfl|simp only[go_sem,seval]) (by first|rfl|simp only[go_sem,seval])
   .obtain⟨v10,fK,h⟩:=qb h;obtain⟨v12,gv,h⟩:=qb h;have CA:ae aB (X aB) 136 [.str v10]=E6 (.str v12,En):=YC gv;rcases qc h with⟨jS,h⟩|⟨jS,h⟩
    .obtain⟨dL,kF,h⟩:=qb h;have qI:ae aB (X aB) 140 [.str v10]=E6 (.aJ [aE dL.1,.bool dL.2],En):=zju kF;obtain⟨fj,Kx,h⟩:=qb h;have qJ:ae aB (X aB) 36 [.bool (!dL.2),Iv 26]=E6 (Iv fj,En):=YH Kx;obtain⟨ln,s7,h⟩:=qb h;have qK:ae aB (X aB) 36 [.bool (!decide (dL.1.number=(qd .i64 (J+1)))),Iv 11]=E6 (Iv ln,En):=YH s7;obtain⟨v21,nz,h⟩:=qb h;have qL:ae aB (X aB) 35 [.list En 1 [Iv fj,Iv ln]]=E6 (Iv v21,En):=jzy nz;rcases qc h with⟨pf,h⟩|⟨pf,h⟩
     .have Q:(dL.1,0)=r:=E6.inj h;subst Q
      have this:∃hh,ai aB (X aB) 53 [.str O,Iv J] []=E6 (.aJ [aE dL.1,Iv 0],En,hh):=by
       rw[qg (show aB.br 53=E6 qH from rfl) (by simp)];simp only[go_sem,seval,qH,Y,nE h3,h4,lU h6,rT,h9,y8 fK,CA,jS,qI,qJ,qK,qL,pf];exact⟨_,rfl⟩
      obtain⟨hh,this⟩:=this;exact jr rfl this (by first|rfl|simp only[go_sem,seval]) (by first|rfl|simp only[go_sem,seval])
     .have Q:(⟨0,[],Ha,Ha,[]⟩,v21)=r:=E6.inj h;subst Q
      have this:∃hh,ai aB (X aB) 53 [.str O,Iv J] []=E6 (.aJ [.agg [Iv 0,.str [],Nl,Nl,.str []],Iv v21],En,hh):=by
       rw[qg (show aB.br 53=E6 qH from rfl) (by simp)];simp only[go_sem,seval,qH,Y,nE h3,h4,lU h6,rT,h9,y8 fK,CA,jS,qI,qJ,qK,qL,pf];exact⟨_,rfl⟩
      obtain⟨hh,this⟩:=this;exact jr rfl this (by first|rfl|simp only[go_sem,seval]) (by first|rfl|simp only[go_sem,seval])
    .have Q:(⟨0,[],Ha,Ha,[]⟩,28)=r:=E6.inj h;subst Q
     have this:∃hh,ai aB (X aB) 53 [.str O,Iv J] []=E6 (.aJ [.agg [Iv 0,.str [],Nl,Nl,.str []],Iv 28],En,hh):=by
      rw[qg (show aB.br 53=E6 qH from rfl) (by simp)];simp only[go_sem,seval,qH,Y,nE h3,h4,lU h6,rT,h9,y8 fK,CA,jS];exact⟨_,rfl⟩
     obtain⟨hh,this⟩:=this;exact jr rfl this (by first|rfl|simp only[go_sem,seval]) (by first|rfl|simp only[go_sem,seval])
  .have Q:(⟨0,[],Ha,Ha,[]⟩,26)=r:=E6.inj h;subst Q
   have this:∃hh,ai aB (X aB) 53 [.str O,Iv J] []=E6 (.aJ [.agg [Iv 0,.str [],Nl,Nl,.str []],Iv 26],En,hh):=by
    rw[qg (show aB.br 53=E6 qH from rfl) (by simp)];simp only[go_sem,seval,qH,Y,nE h3,h4];exact⟨_,rfl⟩
   obtain⟨hh,this⟩:=this;exact jr rfl this (by first|rfl|simp only[go_sem,seval]) (by first|rfl|simp only[go_sem,seval])
def tL (O:aj)(V:(ak GEv)×Int×Bool):Option (((ak GEv)×Int×Bool)⊕(((ak GEv)×Bool×Int×Int)⊕((ak GEv)×Bool×Int))):=
 cond (decide (V.2.1<(O.length:Int)))
  (qa (fL O (E6 V.2.1) Ha) fun qM=>
  qa (f52 qM ([10]:aj)) fun eu=>
  cond eu.2.2
   (qa (f53 eu.1 ((V.1.getD []).length:Int)) fun ig=>
   cond (decide (ig.2=0))
    (cond V.2.2
     (qa (bC V.1 [ig.1]) fun rU=>
     E6 (.inl (rU,qd .i64 (V.2.1+(qd .i64 ((eu.1.length:Int)+1))),Hb)))
     (cond V.1.isNone
      (qa (bC V.1 [ig.1]) fun CC=>
      E6 (.inl (CC,qd .i64 (V.2.1+(qd .i64 ((eu.1.length:Int)+1))),Hb)))
      (Ha)))
    (E6 (.inr (.inl (V.1,V.2.2,V.2.1,ig.2)))))
   (E6 (.inr (.inl (V.1,V.2.2,V.2.1,29)))))
  (E6 (.inr (.inr (V.1,V.2.2,V.2.1))))
def zR (O:aj)(V:(ak GEv)×Int×Bool):bn:=⟨[(0,.str O,En),(5,sl 5 vev V.1,V.2.2),(6,Iv V.2.1,En)],[]⟩
def GN (O:aj):((ak GEv)×Bool×Int×Int)⊕((ak GEv)×Bool×Int)->jb×bn
 | .inl d=>(.ret,⟨[(2,sl 5 vev d.1,d.2.1),(3,Iv d.2.2.1,En),(4,Iv d.2.2.2,En)],[]⟩)| .inr d=>(.exit 0,⟨[(0,.str O,En),(5,sl 5 vev d.1,d.2.1),(6,Iv d.2.2,En),(18,.bool En,En)],[]⟩)
theorem j79 (O:aj)(V:(ak GEv)×Int×Bool)(r)(h:tL O V=E6 r):jy aB zS (zR O) (GN O) V r:=by
 unfold tL at h;rcases qc h with⟨rR,h⟩|⟨rR,h⟩
 .obtain⟨qM,vJ,h⟩:=qb h;obtain⟨eu,Ky,h⟩:=qb h;have kH:ae aB (X aB) 52 [.str qM,.str ([10]:aj)]=E6 (.aJ [.str eu.1,.str eu.2.1,.bool eu.2.2],En):=W52 Ky;rcases qc h with⟨lV,h⟩|⟨lV,h⟩
  .rw[lV]at kH;obtain⟨ig,zT,h⟩:=qb h;have qN:ae aB (X aB) 53 [.str eu.1,Lv V.1]=E6 (.aJ [aE ig.1,Iv ig.2],En):=W53 zT;rcases qc h with⟨zU,h⟩|⟨zU,h⟩
   .rcases qc h with⟨ov,h⟩|⟨ov,h⟩
    .obtain⟨rU,KF,h⟩:=qb h;cases h;exact kp (bP:=⟨[(0,.str O,En),(5,sl 5 vev rU,Hb),(6,Iv (qd .i64 (V.2.1+(qd .i64 ((eu.1.length:Int)+1)))),En)],[]⟩) (by simp only[go_sem,seval,zS,zR,rR,lU vJ,kH,lV,qN,zU,ov,q35 KF]<;>rfl) (jQ (Hc _))
    .rcases qc h with⟨KG,h⟩|⟨KG,h⟩
     .obtain⟨CC,h40,h⟩:=qb h;cases h;exact kp (bP:=⟨[(0,.str O,En),(5,sl 5 vev CC,Hb),(6,Iv (qd .i64 (V.2.1+(qd .i64 ((eu.1.length:Int)+1)))),En)],[]⟩) (by simp only[go_sem,seval,zS,zR,rR,lU vJ,kH,lV,qN,zU,ov,KG,q4e h40 KG]<;>rfl) (jQ (Hc _))
     .cases h
   .cases h;exact qu (by simp only[go_sem,seval,zS,zR,rR,lU vJ,kH,lV,qN,zU,GN]<;>rfl)
  .rw[lV]at kH;cases h;exact qu (by simp only[go_sem,seval,zS,zR,rR,lU vJ,kH,lV,GN]<;>rfl)
 .cases h;exact qu (by simp only[go_sem,seval,zS,zR,rR,GN]<;>rfl)
theorem j70 (O:aj){V:(ak GEv)×Int×Bool}{d}(h:bq (tL O) V=E6 d):X aB (.loop zS) (zR O V)=E6 (GN O d):=lT (j79 O) (fun d=>by rcases d with d|d<;>(intro hh;cases hh)) h
def f17 (O:aj):Option ((ak GEv)×Int×Int):=
 cond (decide (1000000<(O.length:Int)))
  (E6 (Ha,0,27))
  (qa (bq (tL O) (Ha,0,En)) fun d41=>match d41 with
   | .inl d43=>
    E6 (d43.1,d43.2.2.1,d43.2.2.2)
   | .inr d44=>
    E6 (d44.1,d44.2.2,0))
theorem KH {O:aj}{r}(h:f17 O=E6 r):ae aB (X aB) 17 [.str O]=E6 (.aJ [sl 5 vev r.1,Iv r.2.1,Iv r.2.2],En):=by
 unfold f17 at h;refine zg YI ?_
 repeat' first|(replace h:=qb h;obtain⟨d,g,h⟩:=h;with_reducible first|(replace g:=j70 O g;rcases d with d|d<;>dsimp only[zR,GN,zr]at g h)|skip)|(replace h:=qc h;rcases h with⟨g,h⟩|⟨g,h⟩)
 all_goals (cases h<;>(simp only[go_sem,seval,YI, *];exact⟨_,rfl⟩))
def f16 (O:aj)(J:GEv):Option (aj×Int):=
 qa (f17 O) fun v1=>
 qa (f41 J) fun v3=>
 qa (f36 (!decide (J.number=(qd .i64 (((v1.1.getD []).length:Int)+1)))) 11) fun v5=>
 qa (f35 (E6 [v1.2.2,v3,v5])) fun v7=>
 cond (decide (v7=0))
  (qa (f49 J) fun v10=>
  qa (gZ O v10) fun v12=>
  cond (decide (1000000<(v12.length:Int)))
   (E6 ([],27))
   (E6 (v12,0)))
  (E6 ([],v7))
theorem W16 {O:aj}{J:GEv}{r}(h:f16 O J=E6 r):ae aB (X aB) 16 [.str O,aE J]=E6 (.aJ [.str r.1,Iv r.2],En):=by
 unfold f16 at h;obtain⟨v1,I,h⟩:=qb h;have gE:ae aB (X aB) 17 [.str O]=E6 (.aJ [sl 5 vev v1.1,Iv v1.2.1,Iv v1.2.2],En):=KH I;obtain⟨v3,h4,h⟩:=qb h;have qO:ae aB (X aB) 41 [aE J]=E6 (Iv v3,En):=j1h h4;obtain⟨v5,h6,h⟩:=qb h;have qG:ae aB (X aB) 36 [.bool (!decide (J.number=(qd .i64 (((v1.1.getD []).length:Int)+1)))),Iv 11]=E6 (Iv v5,En):=YH h6;obtain⟨v7,h8,h⟩:=qb h;have rT:ae aB (X aB) 35 [.list En 1 [Iv v1.2.2,Iv v3,Iv v5]]=E6 (Iv v7,En):=jzy h8;rcases qc h with⟨h9,h⟩|⟨h9,h⟩
 .obtain⟨v10,fK,h⟩:=qb h;have tK:ae aB (X aB) 49 [aE J]=E6 (.str v10,En):=W49 fK;obtain⟨v12,gv,h⟩:=qb h;rcases qc h with⟨jS,h⟩|⟨jS,h⟩
  .have Q:([],27)=r:=E6.inj h;subst Q
   have this:∃hh,ai aB (X aB) 16 [.str O,aE J] []=E6 (.aJ [.str [],Iv 27],En,hh):=by
    rw[qg (show aB.br 16=E6 CD from rfl) (by simp)];simp only[go_sem,seval,CD,gE,qO,qG,rT,h9,tK,ym gv,jS];exact⟨_,rfl⟩
   obtain⟨hh,this⟩:=this;exact jr rfl this (by first|rfl|simp only[go_sem,seval]) (by first|rfl|simp only[go_sem,seval])
  .have Q:(v12,0)=r:=E6.inj h;subst Q
   have this:∃hh,ai aB (X aB) 16 [.str O,aE J] []=E6 (.aJ [.str v12,Iv 0],En,hh):=by
    rw[qg (show aB.br 16=E6 CD from rfl) (by simp)];simp only[go_sem,seval,CD,gE,qO,qG,rT,h9,tK,ym gv,jS];exact⟨_,rfl⟩
   obtain⟨hh,this⟩:=this;exact jr rfl this (by first|rfl|simp only[go_sem,seval]) (by first|rfl|simp only[go_sem,seval])
 .have Q:([],v7)=r:=E6.inj h;subst Q
  have this:∃hh,ai aB (X aB) 16 [.str O,aE J] []=E6 (.aJ [.str [],Iv v7],En,hh):=by
   rw[qg (show aB.br 16=E6 CD from rfl) (by simp)];simp only[go_sem,seval,CD,gE,qO,qG,rT,h9];exact⟨_,rfl⟩
  obtain⟨hh,this⟩:=this;exact jr rfl this (by first|rfl|simp only[go_sem,seval]) (by first|rfl|simp only[go_sem,seval])
end Go.Z
end
