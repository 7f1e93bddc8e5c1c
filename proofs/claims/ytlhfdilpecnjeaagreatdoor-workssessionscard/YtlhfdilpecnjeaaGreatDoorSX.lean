/- Chapter 10, plain. -/
import Derived.Test.YtlhfdilpecnjeaaGreatDoorE1
import Derived.Test.YtlhfdilpecnjeaaGreatDoorPS
set_option linter.all false
set_option maxRecDepth 100000
set_option maxHeartbeats 4000000
noncomputable section
open Option renaming some->En,none->If
open Bool renaming false->Ga,true->Ha,and_eq_true->Ii,false_or->Ix,and_false->Jn,and_true->Jo
open List renaming append_nil->Gb,length_append->Gd,append_assoc->Hb,set_append_left->Ig,mem_of_getElem?->Ij,getElem?_set->Ik,mem_append->Ip,set_comm->Ir,set_set->Iy,mem_singleton->I0,getElem?_append_right->I5,mem_of_find?_eq_some->I6,getElem?_eq_some_iff->I7,getElem?_append_left->I9,not_mem_nil->Ja,length_set->Jb,mem_of_getLast?->Jc,map_cons->Jf,all_eq_true->Jg,cons_append->Ji,find?->Jm
open Nat renaming add_zero->Hc,lt_succ_of_lt->Io,lt_irrefl->Iu,sub_self->Iz,le_refl->I1,blt_eq->Jj
namespace Go.Z
open Go Go.Abs Go.W
def Nm (s:Str):Prop:=s.length<=24/\s≠[]
structure NB (r:z8):Prop where
 L:∀x∈r.ay,Nm x.name/\0<=x.left/\x.left<=10000
 P:∀p∈r.ah,(∀t∈p.b6.aS,Nm t.k)/\∀d∈p.bm,∀t∈d.aS,Nm t.k
 U:∀u∈r.units,Nm u.name/\∀x∈u.uses,Nm x.k
theorem NB.empty:NB mO:=⟨fun p (hp:p∈([]:List _))=>absurd hp Ja,fun p (hp:p∈([]:List xr))=>absurd hp Ja,fun u (hu:u∈([]:List lx))=>absurd hu Ja⟩
theorem NB.bM {r}(h:NB r){i p}(hp:(∀t∈p.b6.aS,Nm t.k)/\∀d∈p.bm,∀t∈d.aS,Nm t.k):NB (bM r i p):=
 ⟨h.L,fun q hq=>by
  rcases tS hq with hq|rfl
  ·exact h.P q hq
  ·exact hp,h.U⟩
theorem NB.aJ {r}(h:NB r){i u}(hu:Nm u.name/\∀x∈u.uses,Nm x.k):NB (aJ r i u):=
 ⟨h.L,h.P,fun q hq=>by
  rcases tS hq with hq|rfl
  ·exact h.U q hq
  ·exact hu⟩
theorem NB.cA {r}(h:NB r){i x}(M:Nm x.name/\0<=x.left/\x.left<=10000):NB (cA r i x):=
 ⟨fun q hq=>by
  rcases tS hq with hq|rfl
  ·exact h.L q hq
  ·exact M,h.P,h.U⟩
theorem jkn {α:Type}{p:α->Bool}{x y:α}{l}(h:y∈kc p x l):y=x\/y∈l:=by
 unfold kc at h;split at h
 .rcases tS h with h|h
  .exact .inr h
  .exact .inl h
 .rcases Ip.1 h with h|h
  .exact .inr h
  .exact .inl (I0.1 h)
theorem jj9 {s:aj}(h:Go.W.cu s=Ha):Nm s:=by
 unfold Go.W.cu at h;split at h
 .cases h
 .simp only[Ii,decide_eq_true_eq]at h;exact⟨h.2,by simp⟩
theorem jxv {e:cQ}(h:jj e=0)(hu:e.kind≠oR):Nm (nm e 0)/\(e.kind=lW->Nm (nm e 1))/\0<=vl e 1:=by
 have hn:(∃f,z7 e.kind=En f/\e.names.length=f.1)/\(∀s∈e.names,Go.W.cu s=Ha)/\∀v∈e.values,0<=v:=by
  unfold jj at h;split at h
  .cases h
  split at h
  .cases h
  rename_i f hf;split at h
  .cases h
  rename_i hl;split at h
  .cases h
  rename_i hn;split at h
  .cases h
  rename_i hv;refine⟨⟨f,hf,by omega⟩,Jg.1 (by simpa using hn),fun v hm=>?_⟩;have hv:=Jg.1 (show(e.values.all fun n=>decide (0<=n)&&decide (n<=999999999))=Ha by simpa using hv) v hm;simp only[Ii,decide_eq_true_eq]at hv;exact hv.1
 obtain⟨⟨f,hf,hl⟩,hn,jF⟩:=hn
 have pA:0<=vl e 1:=by
  unfold vl
  cases M:e.values[1]? with
  |none=>exact Int.le_refl _|some v=>exact jF v (Ij M)
 have g:∀i,i<e.names.length->Nm (nm e i):=fun i hi=>by
  unfold nm;rw[List.getElem?_eq_getElem hi];exact jj9 (hn _ (List.getElem_mem hi))
 have hm:(e.kind,f)∈cC:=by
  unfold z7 at hf
  cases M:cC.find? fun x=>decide (x.1=e.kind)with
  |none=>rw[M]at hf;cases hf
  |some x=>
   rw[M]at hf;obtain rfl:x.2=f:=En.inj hf
   have Y:x.1=e.kind:=by simpa using List.find?_some M
   rw[<-Y];exact I6 M
 have k1:∀x∈cC,(x.1=oR\/0<x.2.1)/\(x.1=lW->1<x.2.1):=by decide
 obtain⟨k2,k3⟩:=k1 _ hm;refine⟨g 0 (k2.elim (fun k2=>absurd k2 hu) fun k2=>by rw[hl];exact k2),fun ht=>g 1 (by rw[hl];exact k3 ht),pA⟩
theorem jou {r r' e}(hn:Nm (nm e 0)/\(e.kind=lW->Nm (nm e 1))/\0<=vl e 1)(h:NB r)(ha:apply (qd .i64) r e=.ok r'):NB r':=by
 have G:=hn.1;unfold apply at ha;split at ha
 .unfold pS at ha;split at ha
  .repeat' split at ha
   all_goals first|(cases ha;done)|skip
   cases ha;refine⟨fun x M=>?_,h.P,h.U⟩;rcases Ip.1 M with M|M
   .exact h.L x M
   .simp at M;subst M;exact⟨G,by show 0<=vl e 1;omega,by show vl e 1<=10000;omega⟩
  split at ha
  .repeat' split at ha
   all_goals first|(cases ha;done)|skip
   cases ha;refine⟨h.L,fun p hp=>?_,h.U⟩;rcases Ip.1 hp with hp|hp
   .exact h.P p hp
   .simp at hp;subst hp;simp
  .split at ha
   .cases ha
   repeat' split at ha
   all_goals first|(cases ha;done)|skip
   cases ha;refine⟨h.L,h.P,fun p hp=>?_⟩;rcases Ip.1 hp with hp|hp
   .exact h.U p hp
   .simp at hp;subst hp;exact⟨G,by simp⟩
 split at ha
 .unfold pT at ha;split at ha
  .cases ha
  split at ha
  .cases ha
  rename_i p hp;have hD:=h.P p (Ij hp)
  repeat' split at ha
  all_goals first|(cases ha;done)|skip
  .cases ha;exact h.bM ⟨hD.1,hD.2⟩
  .cases ha;refine h.bM ⟨fun t ht=>?_,hD.2⟩;rcases jkn ht with rfl|ht
   .exact hn.2.1 (by assumption)
   .exact hD.1 t ht
  .cases ha;refine h.bM ⟨hD.1,fun d hd=>?_⟩;rcases Ip.1 hd with hd|hd
   .exact hD.2 d hd
   .simp at hd;subst hd;exact hD.1
 split at ha
 .unfold vR at ha;split at ha
  .cases ha
  split at ha
  .cases ha
  rename_i x M;have hX:=h.L x (Ij M)
  repeat' split at ha
  all_goals first|(cases ha;done)|skip
  all_goals (cases ha;exact h.cA hX)
 .unfold pU at ha;split at ha
  .cases ha
  split at ha
  .cases ha
  rename_i u hu;have hN:=h.U u (Ij hu);split at ha
  .unfold xE at ha;split at ha
   .cases ha
   split at ha
   .cases ha
   rename_i x M;have hX:=h.L x (Ij M)
   repeat' split at ha
   all_goals first|(cases ha;done)|skip
   cases ha;apply NB.aJ
   .apply NB.cA h;have hv:=hn.2.2;refine⟨hX.1,?_⟩;show 0<=qd .i64 (x.left-vl e 1)/\qd .i64 (x.left-vl e 1)<=10000;rw[OS (by omega) (by omega)];omega
   .refine⟨hN.1,fun y hy=>?_⟩;rcases q10 hy with hy|hy
    .rw[hy];exact hX.1
    .exact hN.2 y hy
  split at ha
  .unfold xF at ha;split at ha
   .cases ha
   split at ha
   .cases ha
   rename_i v hv;have hV:=h.U v (Ij hv)
   repeat' split at ha
   all_goals first|(cases ha;done)|skip
   cases ha;exact(h.aJ (u:={ u with partner:=v.name }) ⟨hN.1,hN.2⟩).aJ (u:={ v with partner:=u.name }) ⟨hV.1,hV.2⟩
  split at ha
  .repeat' split at ha
   all_goals first|(cases ha;done)|skip
   cases ha;exact h.aJ ⟨hN.1,hN.2⟩
  split at ha
  .split at ha
   .cases ha
   split at ha
   .cases ha
   split at ha
   .cases ha
   .cases ha;exact h.aJ ⟨hN.1,hN.2⟩
  split at ha
  .split at ha
   .cases ha
   .cases ha;exact h.aJ ⟨hN.1,hN.2⟩
  .split at ha
   .cases ha
   .cases ha;exact h.aJ ⟨hN.1,hN.2⟩
theorem jn0 {r r' e}(hn:Nm (nm e 0)/\(e.kind=lW->Nm (nm e 1))/\0<=vl e 1)(h:NB r)(ha:after (qd .i64) r e=.ok r'):NB r':=by
 unfold after at ha;split at ha
 .cases ha
 split at ha
 .cases ha
 rename_i r1 Y;cases ha;have:=jou hn h Y;exact⟨this.L,this.P,this.U⟩
def HN (h:y6):Prop:=∀r∈h.2,NB r
theorem HN.empty:HN ([],[mO]):=by
 intro r Q;rw[I0.1 Q];exact NB.empty
theorem HN.accept {h h' k e}(hc:jj e=0)(b:HN h)(ha:Go.W.accept (qd .i64) h k e=.ok h'):HN h':=by
 have dH:NB (now h):=by
  unfold now
  cases hl:h.2.getLast? with
  |none=>exact NB.empty|some r=>exact b r (Jc hl)
 unfold Go.W.accept at ha;split at ha
 .cases ha
 split at ha
 .split at ha
  .cases ha
  split at ha
  .cases ha
  .cases ha;intro r Q;exact b r ((List.dropLast_sublist h.2).subset Q)
 .rename_i hu;split at ha
  .cases ha
  .rename_i r' Y;cases ha;intro r Q;rcases Ip.1 Q with Q|Q
   .exact b r Q
   .rw[I0.1 Q];exact jn0 (jxv hc hu) dH Y
theorem HN.now {h:y6}(b:HN h):NB (Go.W.now h):=by
 unfold Go.W.now
 cases hl:h.2.getLast? with
 |none=>exact NB.empty|some r=>exact b r (Jc hl)
theorem qyl:∀ {l:List cQ} {i:Nat} {h h':y6},HN h->ya (qd .i64) i h l=.ok h'->HN h'
 | [],i,h,h',b,Q=>by simp only[ya]at Q;cases Q;exact b
 |e::l,i,h,h',b,Q=>by
  simp only[ya]at Q;split at Q
  .cases Q
  rename_i hc;split at Q
  .cases Q
  .rename_i Y ha;exact qyl (b.accept (by simpa using hc) ha) Q
theorem j2w {l:List cQ}{h:y6}(Q:run (qd .i64) l=.ok h):HN h:=by
 unfold run at Q;split at Q
 .cases Q
 .exact qyl HN.empty Q
theorem qtf {w:Int->Int}{e:cQ}:∀ {l:List cQ} {i:Nat} {h h' I:y6},ya w i h l=.ok h'->jj e=0->Go.W.accept w h' (((i+l.length:Nat):Int)+1) e=.ok I->ya w i h (l++[e])=.ok I
 | [],i,h,h',I,Q,hc,ha=>by
  simp only[ya]at Q;cases Q;simp only[List.nil_append,ya];rw[if_neg (by simp[hc])];rw[show((i:Int)+1)=(((i+([]:List cQ).length:Nat):Int)+1) by simp,ha]
 |x::l,i,h,h',I,Q,hc,ha=>by
  simp only[ya,Ji]at Q ⊢;split at Q
  .cases Q
  rename_i M;rw[if_neg M];split at Q
  .cases Q
  .rename_i Y hh;exact qtf Q hc (by rw[show i+1+l.length=i+(x::l).length by simp;omega];exact ha)
theorem q7z {w:Int->Int}{l:List cQ}{e:cQ}{h I:y6}(Q:run w l=.ok h)(hn:l.length<1000)(hc:jj e=0)(ha:Go.W.accept w h ((l.length:Int)+1) e=.ok I):run w (l++[e])=.ok I:=by
 unfold run at Q ⊢;rw[if_neg (by omega)]at Q;rw[if_neg (by simp;omega)];exact qtf Q hc (by rw[Nat.zero_add];exact ha)
theorem qww {w:Int->Int}:∀ {l:List cQ} {i:Nat} {h h':y6},ya w i h l=.ok h'->∀e∈l,jj e=0
 | [],i,h,h',Q,e,he=>by cases he
 |x::l,i,h,h',Q,e,he=>by
  simp only[ya]at Q;split at Q
  .cases Q
  rename_i hc;split at Q
  .cases Q
  .rename_i Y ha;rcases List.mem_cons.1 he with rfl|he
   .simpa using hc
   .exact qww Q e he
theorem q3r {w:Int->Int}{l:List cQ}{h:y6}(Q:run w l=.ok h):l.length<=1000/\∀e∈l,jj e=0:=by
 unfold run at Q;split at Q
 .cases Q
 .exact⟨by omega,qww Q⟩
end Go.Z
namespace Go.Z
open Go Go.Abs Go.W
def f29 (O:aj):Option Bool:=
 qa (f75 O) fun v1=>
 En v1.known
theorem W29 {O:aj}{r}(h:f29 O=En r):ae pr (X pr) 29 [.str O]=En (.bool r,Ga):=by
 unfold f29 at h;refine jz c29 ?_
 repeat' first|(replace h:=qb h;obtain⟨d,g,h⟩:=h;with_reducible first|replace g:=ZU g|skip)|(replace h:=qc h;rcases h with⟨g,h⟩|⟨g,h⟩)
 all_goals (cases h<;>(simp only[go_sem,seval,c29, *];exact⟨_,rfl⟩))
def Aw (O:ak aj)(V:aj×Int):Option ((aj×Int)⊕((aj×Int))):=
 cond (decide (V.2<((O.getD []).length:Int)))
  (qa (gA V.1 ([32]:aj)) fun ey=>
  qa (ql (O.getD []) V.2) fun v21=>
  qa (gA ey v21) fun v23=>
  En (.inl (v23,qd .i64 (V.2+1))))
  (En (.inr (V.1,V.2)))
def Lx (O:ak aj)(V:aj×Int):bg:=⟨[(0,sl 1 qx O,Ga),(3,.str V.1,Ga),(4,Iv V.2,Ga)],[]⟩
def QO (O:ak aj)(d:(aj×Int)):q9×bg:=(.exit 0,⟨[(0,sl 1 qx O,Ga),(3,.str d.1,Ga),(4,Iv d.2,Ga),(14,.bool Ga,Ga)],[]⟩)
theorem j8x (O:ak aj)(V:aj×Int)(r)(h:Aw O V=En r):jo pr Ly (Lx O) (QO O) V r:=by
 unfold Aw at h;rcases qc h with⟨l6,h⟩|⟨l6,h⟩
 .obtain⟨ey,nx,h⟩:=qb h;obtain⟨v21,gj,h⟩:=qb h;obtain⟨v23,lu,h⟩:=qb h;cases h;exact z5 (bH:=⟨[(0,sl 1 qx O,Ga),(3,.str v23,Ga),(4,Iv (qd .i64 (V.2+1)),Ga)],[]⟩) (by simp only[go_sem,seval,Ly,Lx,l6,lA nx,jn gj,lA lu]<;>rfl) (yg (I1 _))
 .cases h;exact qn (by simp only[go_sem,seval,Ly,Lx,l6,QO]<;>rfl)
theorem j7m (O:ak aj){V:aj×Int}{d}(h:bd (Aw O) V=En d):X pr (.loop Ly) (Lx O V)=En (QO O d):=kz (j8x O) (fun d hh=>by cases hh) h
def f76 (O:ak aj):Option aj:=
 cond (decide (((O.getD []).length:Int)=0))
  (En ([110,111,110,101]:aj))
  (qa (ql (O.getD []) 0) fun v2=>
  qa (bd (Aw O) (v2,1)) fun d25=>
  En d25.1)
theorem W76 {O:ak aj}{r}(h:f76 O=En r):ae pr (X pr) 76 [sl 1 qx O]=En (.str r,Ga):=by
 unfold f76 at h;refine jz c76 ?_
 repeat' first|(replace h:=qb h;obtain⟨d,g,h⟩:=h;with_reducible first|(replace g:=j7m O g;dsimp only[Lx,QO,zc]at g h)|skip)|(replace h:=qc h;rcases h with⟨g,h⟩|⟨g,h⟩)
 all_goals (cases h<;>(simp only[go_sem,seval,c76,ji, *];exact⟨_,rfl⟩))
def wC (O:av)(J:aj)(V:(ak aj)×Int×Bool):Option (((ak aj)×Int×Bool)⊕(((ak aj)×Bool×Int))):=
 cond (decide (V.2.1<((O.units.getD []).length:Int)))
  (cond (decide (J=([115,104,105,112,112,101,100]:aj)))
   (qa (ql (O.units.getD []) V.2.1) fun ey=>
   cond ey.ax
    (cond V.2.2
     (qa (bB V.1 [ey.name]) fun v23=>
     En (.inl (v23,qd .i64 (V.2.1+1),Ha)))
     (cond V.1.isNone
      (qa (bB V.1 [ey.name]) fun v26=>
      En (.inl (v26,qd .i64 (V.2.1+1),Ha)))
      (If)))
    (En (.inl (V.1,qd .i64 (V.2.1+1),V.2.2))))
   (En (.inr (V.1,V.2.2,V.2.1))))
  (En (.inr (V.1,V.2.2,V.2.1)))
def QP (O:av)(J:aj)(V:(ak aj)×Int×Bool):bg:=⟨[(1,.str J,Ga),(2,.aq (aR O),Ga),(5,sl 1 qx V.1,V.2.2),(6,Iv V.2.1,Ga)],[]⟩
def QQ (O:av)(J:aj)(d:((ak aj)×Bool×Int)):q9×bg:=(.exit 0,⟨[(1,.str J,Ga),(2,.aq (aR O),Ga),(5,sl 1 qx d.1,d.2.1),(6,Iv d.2.2,Ga),(16,.bool Ga,Ga)],[]⟩)
theorem j9e (O:av)(J:aj)(V:(ak aj)×Int×Bool)(r)(h:wC O J V=En r):jo pr QR (QP O J) (QQ O J) V r:=by
 unfold wC at h
 repeat' first|(replace h:=qb h;obtain⟨d,g,h⟩:=h;with_reducible first|replace g:=tI g|skip)|(replace h:=qc h;rcases h with⟨g,h⟩|⟨g,h⟩)
 all_goals (cases h<;>((first|refine qn ?_|refine jr ?_);simp only[go_sem,seval,QR,QP,ji,QQ, *]<;>rfl))
theorem j7g (O:av)(J:aj){V:(ak aj)×Int×Bool}{d}(h:bd (wC O J) V=En d):X pr (.loop QR) (QP O J V)=En (QQ O J d):=kz (j9e O J) (fun d hh=>by cases hh) h
def x9 (O:av)(J:aj)(s1:(ak aj)×Int×Bool):Option (((ak aj)×Int×Bool)⊕(((ak aj)×Bool×Int))):=
 cond (decide (s1.2.1<((O.ay.getD []).length:Int)))
  (cond (decide (J=([104,101,108,100]:aj)))
   (qa (ql (O.ay.getD []) s1.2.1) fun wD=>
   cond wD.held
    (cond s1.2.2
     (qa (bB s1.1 [wD.name]) fun v58=>
     En (.inl (v58,qd .i64 (s1.2.1+1),Ha)))
     (cond s1.1.isNone
      (qa (bB s1.1 [wD.name]) fun Hq=>
      En (.inl (Hq,qd .i64 (s1.2.1+1),Ha)))
      (If)))
    (En (.inl (s1.1,qd .i64 (s1.2.1+1),s1.2.2))))
   (En (.inr (s1.1,s1.2.2,s1.2.1))))
  (En (.inr (s1.1,s1.2.2,s1.2.1)))
def QS (O:av)(J:aj)(s1:(ak aj)×Int×Bool):bg:=⟨[(1,.str J,Ga),(2,.aq (aR O),Ga),(5,sl 1 qx s1.1,s1.2.2),(7,Iv s1.2.1,Ga)],[]⟩
def QT (O:av)(J:aj)(d:((ak aj)×Bool×Int)):q9×bg:=(.exit 2,⟨[(1,.str J,Ga),(2,.aq (aR O),Ga),(5,sl 1 qx d.1,d.2.1),(7,Iv d.2.2,Ga),(42,.bool Ga,Ga)],[]⟩)
theorem zac (O:av)(J:aj)(s1:(ak aj)×Int×Bool)(r)(h:x9 O J s1=En r):jo pr QU (QS O J) (QT O J) s1 r:=by
 unfold x9 at h
 repeat' first|(replace h:=qb h;obtain⟨d,g,h⟩:=h;with_reducible first|replace g:=tI g|skip)|(replace h:=qc h;rcases h with⟨g,h⟩|⟨g,h⟩)
 all_goals (cases h<;>((first|refine qn ?_|refine jr ?_);simp only[go_sem,seval,QU,QS,ji,QT, *]<;>rfl))
theorem j7s (O:av)(J:aj){s1:(ak aj)×Int×Bool}{d}(h:bd (x9 O J) s1=En d):X pr (.loop QU) (QS O J s1)=En (QT O J d):=kz (zac O J) (fun d hh=>by cases hh) h
def f77 (O:av)(J:aj):Option ((ak aj)×Bool):=
 qa (bd (wC O J) (If,0,Ga)) fun d28=>
 qa (bd (x9 O J) (d28.1,0,d28.2.1)) fun d63=>
 En (d63.1,d63.2.1)
theorem W77 {O:av}{J:aj}{r}(h:f77 O J=En r):ae pr (X pr) 77 [aR O,.str J]=En (sl 1 qx r.1,r.2):=by
 unfold f77 at h;refine yc c77 ?_
 repeat' first|(replace h:=qb h;obtain⟨d,g,h⟩:=h;with_reducible first|(replace g:=j7g O J g;dsimp only[QP,QQ,zc]at g h)|(replace g:=j7s O J g;dsimp only[QS,QT,zc]at g h)|skip)|(replace h:=qc h;rcases h with⟨g,h⟩|⟨g,h⟩)
 all_goals (cases h<;>(simp only[go_sem,seval,c77, *];exact⟨_,rfl⟩))
def f31 (O:av)(J:aj):Option (aj×Int):=
 qa (f30 J 32) fun v1=>
 qa (ql (v1.getD []) 0) fun v3=>
 cond (decide (v3=([115,104,105,112,112,101,100]:aj)))
  (cond (decide (((v1.getD []).length:Int)=1))
   (qa (ql (v1.getD []) (qd .i64 0)) fun v7=>
   cond (decide (v7=[]))
    (En ([],26))
    (qa (f77 O v3) fun v10=>
    qa (f76 v10.1) fun v12=>
    En (v12,0)))
   (En ([],26)))
  (cond (decide (v3=([104,101,108,100]:aj)))
   (cond (decide (((v1.getD []).length:Int)=1))
    (qa (ql (v1.getD []) (qd .i64 0)) fun dK=>
    cond (decide (dK=[]))
     (En ([],26))
     (qa (f77 O v3) fun ey=>
     qa (f76 ey.1) fun v21=>
     En (v21,0)))
    (En ([],26)))
   (cond (decide (v3=([108,111,116,115]:aj)))
    (cond (decide (((v1.getD []).length:Int)=2))
     (qa (ql (v1.getD []) (qd .i64 1)) fun v25=>
     cond (decide (v25=[]))
      (En ([],26))
      (cond (decide (v3=([115,116,111,99,107]:aj)))
       (qa (ql (v1.getD []) 1) fun dJ=>
       qa (f78 dJ) fun v31=>
       cond v31
        (qa (f79 O dJ) fun kQ=>
        qa (f34 kQ) fun jY=>
        En (jY,0))
        (En ([],8)))
       (cond (decide (v3=([117,110,105,116,115]:aj)))
        (qa (ql (v1.getD []) 1) fun l9=>
        qa (f80 O l9) fun yA=>
        cond (decide (yA<0))
         (En ([],10))
         (qa (f81 O l9) fun rm=>
         qa (f76 rm.1) fun v46=>
         En (v46,0)))
        (cond (decide (v3=([118,101,114,115,105,111,110]:aj)))
         (qa (ql (v1.getD []) 1) fun v49=>
         qa (f82 O v49) fun v51=>
         cond (decide (v51<0))
          (En ([],10))
          (qa (ql (O.ah.getD []) v51) fun wD=>
          qa (f34 ((wD.bm.getD []).length:Int)) fun v56=>
          En (v56,0)))
         (qa (ql (v1.getD []) 1) fun v58=>
         qa (f83 O v58) fun QV=>
         cond (decide (QV<0))
          (En ([],10))
          (qa (ql (O.units.getD []) QV) fun v63=>
          qa (f84 v63) fun v65=>
          qa (f76 v65.1) fun v67=>
          En (v67,0)))))))
     (En ([],26)))
    (cond (decide (v3=([117,110,105,116,115]:aj)))
     (cond (decide (((v1.getD []).length:Int)=2))
      (qa (ql (v1.getD []) (qd .i64 1)) fun v71=>
      cond (decide (v71=[]))
       (En ([],26))
       (cond (decide (v3=([115,116,111,99,107]:aj)))
        (qa (ql (v1.getD []) 1) fun v75=>
        qa (f78 v75) fun QW=>
        cond QW
         (qa (f79 O v75) fun v80=>
         qa (f34 v80) fun v82=>
         En (v82,0))
         (En ([],8)))
        (qa (ql (v1.getD []) 1) fun v84=>
        qa (f80 O v84) fun v86=>
        cond (decide (v86<0))
         (En ([],10))
         (qa (f81 O v84) fun v89=>
         qa (f76 v89.1) fun v91=>
         En (v91,0)))))
      (En ([],26)))
     (cond (decide (v3=([109,105,115,115,105,110,103]:aj)))
      (cond (decide (((v1.getD []).length:Int)=2))
       (qa (ql (v1.getD []) (qd .i64 1)) fun Lz=>
       cond (decide (Lz=[]))
        (En ([],26))
        (cond (decide (v3=([115,116,111,99,107]:aj)))
         (qa (ql (v1.getD []) 1) fun CY=>
         qa (f78 CY) fun CZ=>
         cond CZ
          (qa (f79 O CY) fun C4=>
          qa (f34 C4) fun v106=>
          En (v106,0))
          (En ([],8)))
         (cond (decide (v3=([118,101,114,115,105,111,110]:aj)))
          (qa (ql (v1.getD []) 1) fun v109=>
          qa (f82 O v109) fun LA=>
          cond (decide (LA<0))
           (En ([],10))
           (qa (ql (O.ah.getD []) LA) fun v114=>
           qa (f34 ((v114.bm.getD []).length:Int)) fun v116=>
           En (v116,0)))
          (qa (ql (v1.getD []) 1) fun v118=>
          qa (f83 O v118) fun LB=>
          cond (decide (LB<0))
           (En ([],10))
           (qa (ql (O.units.getD []) LB) fun v123=>
           qa (f85 O v123) fun v125=>
           qa (f76 v125.1) fun v127=>
           En (v127,0))))))
       (En ([],26)))
      (cond (decide (v3=([115,116,111,99,107]:aj)))
       (cond (decide (((v1.getD []).length:Int)=2))
        (qa (ql (v1.getD []) (qd .i64 1)) fun v131=>
        cond (decide (v131=[]))
         (En ([],26))
         (qa (ql (v1.getD []) 1) fun LC=>
         qa (f78 LC) fun v136=>
         cond v136
          (qa (f79 O LC) fun v139=>
          qa (f34 v139) fun v141=>
          En (v141,0))
          (En ([],8))))
        (En ([],26)))
       (cond (decide (v3=([118,101,114,115,105,111,110]:aj)))
        (cond (decide (((v1.getD []).length:Int)=2))
         (qa (ql (v1.getD []) (qd .i64 1)) fun v145=>
         cond (decide (v145=[]))
          (En ([],26))
          (qa (ql (v1.getD []) 1) fun v148=>
          qa (f82 O v148) fun LD=>
          cond (decide (LD<0))
           (En ([],10))
           (qa (ql (O.ah.getD []) LD) fun v153=>
           qa (f34 ((v153.bm.getD []).length:Int)) fun v155=>
           En (v155,0))))
         (En ([],26)))
        (En ([],13))))))))
theorem W31 {O:av}{J:aj}{r}(h:f31 O J=En r):ae pr (X pr) 31 [aR O,.str J]=En (.aI [.str r.1,Iv r.2],Ga):=by
 unfold f31 at h;refine jz c31 ?_
 repeat' first|(replace h:=qb h;obtain⟨d,g,h⟩:=h;with_reducible first|replace g:=Qr g|replace g:=W77 g|replace g:=W76 g|replace g:=W78 g|replace g:=W79 g|replace g:=K4 g|replace g:=Hr g|replace g:=W81 g|replace g:=LH g|replace g:=QX g|replace g:=W84 g|replace g:=W85 g|skip)|(replace h:=qc h;rcases h with⟨g,h⟩|⟨g,h⟩)
 all_goals (cases h<;>(simp only[go_sem,seval,c31,ji, *];exact⟨_,rfl⟩))
def f9 (O:ak aC)(J:aj):Option (aC×Bool×aj×Int):=
 cond (decide (4096<(J.length:Int)))
  (En (⟨0,[],If,If,[]⟩,Ga,[],27))
  (cond (decide (J=[]))
   (En (⟨0,[],If,If,[]⟩,Ga,[],26))
   (qa (f8 O) fun v3=>
   qa (f30 J 32) fun v5=>
   qa (ql (v5.getD []) 0) fun v7=>
   qa (f29 v7) fun v9=>
   cond v9
    (qa (f32 J) fun v12=>
    cond v12.2
     (cond (decide (1000<=((O.getD []).length:Int)))
      (En (⟨0,[],If,If,[]⟩,Ga,[],5))
      (qa (f33 O (⟨qd .i64 (((O.getD []).length:Int)+1),v12.1.kind,v12.1.names,v12.1.values,v12.1.text⟩)) fun dK=>
      cond (decide (dK=0))
       (qa (f34 (qd .i64 (((O.getD []).length:Int)+1))) fun ey=>
       qa (gA ([100,111,110,101,32]:aj) ey) fun v21=>
       En (⟨qd .i64 (((O.getD []).length:Int)+1),v12.1.kind,v12.1.names,v12.1.values,v12.1.text⟩,Ha,v21,0))
       (En (⟨0,[],If,If,[]⟩,Ga,[],dK))))
     (En (⟨0,[],If,If,[]⟩,Ga,[],26)))
    (qa (f31 v3.1 J) fun v23=>
    En (⟨0,[],If,If,[]⟩,Ga,v23.1,v23.2))))
theorem W9 {O:ak aC}{J:aj}{r}(h:f9 O J=En r):ae pr (X pr) 9 [sl 5 bK O,.str J]=En (.aI [aE r.1,.bool r.2.1,.str r.2.2.1,Iv r.2.2.2],Ga):=by
 unfold f9 at h;rcases qc h with⟨Y,h⟩|⟨Y,h⟩
 .have Q:(⟨0,[],If,If,[]⟩,Ga,[],27)=r:=En.inj h;subst Q
  have this:∃hh,ai pr (X pr) 9 [sl 5 bK O,.str J] []=En (.aI [.agg [Iv 0,.str [],Nl,Nl,.str []],.bool Ga,.str [],Iv 27],Ga,hh):=by
   rw[qg (show pr.br 9=En c9 from rfl) (by simp)];simp only[go_sem,seval,c9,Y];exact⟨_,rfl⟩
  obtain⟨hh,this⟩:=this;exact je rfl this (by first|rfl|simp only[go_sem,seval]) (by first|rfl|simp only[go_sem,seval])
 .rcases qc h with⟨I,h⟩|⟨I,h⟩
  .have Q:(⟨0,[],If,If,[]⟩,Ga,[],26)=r:=En.inj h;subst Q
   have this:∃hh,ai pr (X pr) 9 [sl 5 bK O,.str J] []=En (.aI [.agg [Iv 0,.str [],Nl,Nl,.str []],.bool Ga,.str [],Iv 26],Ga,hh):=by
    rw[qg (show pr.br 9=En c9 from rfl) (by simp)];simp only[go_sem,seval,c9,Y,I];exact⟨_,rfl⟩
   obtain⟨hh,this⟩:=this;exact je rfl this (by first|rfl|simp only[go_sem,seval]) (by first|rfl|simp only[go_sem,seval])
  .obtain⟨v3,h4,h⟩:=qb h;have rF:ae pr (X pr) 8 [sl 5 bK O]=En (.aI [aR v3.1,Iv v3.2.1,Iv v3.2.2],Ga):=W8 h4;obtain⟨v5,h6,h⟩:=qb h;have rz:ae pr (X pr) 30 [.str J,.int .u8 32]=En (sl 1 qx v5,Ha):=Qr h6;obtain⟨v7,h8,h⟩:=qb h;obtain⟨v9,eh,h⟩:=qb h;have oZ:ae pr (X pr) 29 [.str v7]=En (.bool v9,Ga):=W29 eh;rcases qc h with⟨ei,h⟩|⟨ei,h⟩
   .obtain⟨v12,fX,h⟩:=qb h;have fB:ae pr (X pr) 32 [.str J]=En (.aI [aE v12.1,.bool v12.2],Ga):=W32 fX;rcases qc h with⟨fF,h⟩|⟨fF,h⟩
    .rw[fF]at fB;rcases qc h with⟨l4,h⟩|⟨l4,h⟩
     .have Q:(⟨0,[],If,If,[]⟩,Ga,[],5)=r:=En.inj h;subst Q
      have this:∃hh,ai pr (X pr) 9 [sl 5 bK O,.str J] []=En (.aI [.agg [Iv 0,.str [],Nl,Nl,.str []],.bool Ga,.str [],Iv 5],Ga,hh):=by
       rw[qg (show pr.br 9=En c9 from rfl) (by simp)];simp only[go_sem,seval,c9,Y,I,rF,rz,jn h8,oZ,ei,fB,fF,l4];exact⟨_,rfl⟩
      obtain⟨hh,this⟩:=this;exact je rfl this (by first|rfl|simp only[go_sem,seval]) (by first|rfl|simp only[go_sem,seval])
     .obtain⟨dK,oL,h⟩:=qb h;have xV:ae pr (X pr) 33 [sl 5 bK O,.agg [Iv (qd .i64 (((O.getD []).length:Int)+1)),.str v12.1.kind,sl 1 qx v12.1.names,sl 1 zf v12.1.values,.str v12.1.text]]=En (Iv dK,Ga):=W33 oL;rcases qc h with⟨l6,h⟩|⟨l6,h⟩
      .obtain⟨ey,nx,h⟩:=qb h;have fN:ae pr (X pr) 34 [Iv (qd .i64 (((O.getD []).length:Int)+1))]=En (.str ey,Ga):=K4 nx;obtain⟨v21,gj,h⟩:=qb h;have Q:(⟨qd .i64 (((O.getD []).length:Int)+1),v12.1.kind,v12.1.names,v12.1.values,v12.1.text⟩,Ha,v21,0)=r:=En.inj h;subst Q
       have this:∃hh,ai pr (X pr) 9 [sl 5 bK O,.str J] []=En (.aI [.agg [Iv (qd .i64 (((O.getD []).length:Int)+1)),.str v12.1.kind,sl 1 qx v12.1.names,sl 1 zf v12.1.values,.str v12.1.text],.bool Ha,.str v21,Iv 0],Ga,hh):=by
        rw[qg (show pr.br 9=En c9 from rfl) (by simp)];simp only[go_sem,seval,c9,Y,I,rF,rz,jn h8,oZ,ei,fB,fF,l4,xV,l6,fN,lA gj];exact⟨_,rfl⟩
       obtain⟨hh,this⟩:=this;exact je rfl this (by first|rfl|simp only[go_sem,seval]) (by first|rfl|simp only[go_sem,seval])
      .have Q:(⟨0,[],If,If,[]⟩,Ga,[],dK)=r:=En.inj h;subst Q
       have this:∃hh,ai pr (X pr) 9 [sl 5 bK O,.str J] []=En (.aI [.agg [Iv 0,.str [],Nl,Nl,.str []],.bool Ga,.str [],Iv dK],Ga,hh):=by
        rw[qg (show pr.br 9=En c9 from rfl) (by simp)];simp only[go_sem,seval,c9,Y,I,rF,rz,jn h8,oZ,ei,fB,fF,l4,xV,l6];exact⟨_,rfl⟩
       obtain⟨hh,this⟩:=this;exact je rfl this (by first|rfl|simp only[go_sem,seval]) (by first|rfl|simp only[go_sem,seval])
    .rw[fF]at fB;have Q:(⟨0,[],If,If,[]⟩,Ga,[],26)=r:=En.inj h;subst Q
     have this:∃hh,ai pr (X pr) 9 [sl 5 bK O,.str J] []=En (.aI [.agg [Iv 0,.str [],Nl,Nl,.str []],.bool Ga,.str [],Iv 26],Ga,hh):=by
      rw[qg (show pr.br 9=En c9 from rfl) (by simp)];simp only[go_sem,seval,c9,Y,I,rF,rz,jn h8,oZ,ei,fB,fF];exact⟨_,rfl⟩
     obtain⟨hh,this⟩:=this;exact je rfl this (by first|rfl|simp only[go_sem,seval]) (by first|rfl|simp only[go_sem,seval])
   .obtain⟨v23,lu,h⟩:=qb h;have uj:ae pr (X pr) 31 [aR v3.1,.str J]=En (.aI [.str v23.1,Iv v23.2],Ga):=W31 lu;have Q:(⟨0,[],If,If,[]⟩,Ga,v23.1,v23.2)=r:=En.inj h;subst Q
    have this:∃hh,ai pr (X pr) 9 [sl 5 bK O,.str J] []=En (.aI [.agg [Iv 0,.str [],Nl,Nl,.str []],.bool Ga,.str v23.1,Iv v23.2],Ga,hh):=by
     rw[qg (show pr.br 9=En c9 from rfl) (by simp)];simp only[go_sem,seval,c9,Y,I,rF,rz,jn h8,oZ,ei,uj];exact⟨_,rfl⟩
    obtain⟨hh,this⟩:=this;exact je rfl this (by first|rfl|simp only[go_sem,seval]) (by first|rfl|simp only[go_sem,seval])
end Go.Z
namespace Go.Z
open Go Go.Abs Go.W
def f98 (O:bz):Option Bool:=
 En O.ax
theorem W98 (hp:qh){O:bz}{r}(h:f98 O=En r):ai pr (X pr) 98 [aU O] hp=En (.bool r,Ga,hp):=by
 unfold f98 at h;have Q:O.ax=r:=En.inj h;subst Q;rw[qg (show pr.br 98=En c98 from rfl) (by simp)];simp only[go_sem,seval,c98]<;>rfl
def LI (O:ak bz)(V:(ak bz)×Int×Bool):Option (((ak bz)×Int×Bool)⊕(((ak bz)×Bool×Int))):=
 cond (decide (V.2.1<((O.getD []).length:Int)))
  (qa (ql (O.getD []) V.2.1) fun v20=>
  qa (f98 v20) fun v22=>
  cond v22
   (cond V.2.2
    (qa (bB V.1 [v20]) fun v26=>
    En (.inl (v26,qd .i64 (V.2.1+1),Ha)))
    (cond V.1.isNone
     (qa (bB V.1 [v20]) fun dJ=>
     En (.inl (dJ,qd .i64 (V.2.1+1),Ha)))
     (If)))
   (En (.inl (V.1,qd .i64 (V.2.1+1),V.2.2))))
  (En (.inr (V.1,V.2.2,V.2.1)))
def QY (O:ak bz)(V:(ak bz)×Int×Bool):bg:=⟨[(1,.fn (.func 98) [] [],Ga),(5,sl 8 bI V.1,V.2.2),(8,sl 8 bI O,Ga),(9,Lv O,Ga),(10,Iv V.2.1,Ga)],[]⟩
def QZ (O:ak bz)(d:((ak bz)×Bool×Int)):q9×bg:=(.exit 0,⟨[(1,.fn (.func 98) [] [],Ga),(5,sl 8 bI d.1,d.2.1),(8,sl 8 bI O,Ga),(9,Lv O,Ga),(10,Iv d.2.2,Ga),(11,.bool Ga,Ga)],[]⟩)
theorem j0c (O:ak bz)(V:(ak bz)×Int×Bool)(r)(h:LI O V=En r):jo pr C5 (QY O) (QZ O) V r:=by
 unfold LI at h
 repeat' first|(replace h:=qb h;obtain⟨d,g,h⟩:=h;with_reducible first|replace g:=W98 [] g|replace g:=Pb g|skip)|(replace h:=qc h;rcases h with⟨g,h⟩|⟨g,h⟩)
 all_goals (cases h<;>((first|refine qn ?_|refine jr ?_);simp only[go_sem,seval,C5,QY,ji,QZ, *]<;>rfl))
theorem j3h (O:ak bz){V:(ak bz)×Int×Bool}{d}(h:bd (LI O) V=En d):X pr (.loop C5) (QY O V)=En (QZ O d):=kz (j0c O) (fun d hh=>by cases hh) h
def LJ (O:ak bz):Option ((ak bz)×Bool):=
 qa (bd (LI O) (If,0,Ga)) fun d31=>
 En (d31.1,d31.2.1)
theorem zku {O:ak bz}{r}(h:LJ O=En r):ae pr (X pr) 64 [sl 8 bI O,.fn (.func 98) [] []]=En (sl 8 bI r.1,r.2):=by
 unfold LJ at h;refine yc LK ?_
 repeat' first|(replace h:=qb h;obtain⟨d,g,h⟩:=h;with_reducible first|(replace g:=j3h O g;dsimp only[QY,QZ,zc]at g h)|skip)|(replace h:=qc h;rcases h with⟨g,h⟩|⟨g,h⟩)
 all_goals (cases h<;>(simp only[go_sem,seval,LK, *];exact⟨_,rfl⟩))
def f168 (O:jk):Option aj:=
 En O.name
theorem zdg (hp:qh){O:jk}{r}(h:f168 O=En r):ai pr (X pr) 168 [aL O] hp=En (.str r,Ga,hp):=by
 unfold f168 at h;have Q:O.name=r:=En.inj h;subst Q;rw[qg (show pr.br 168=En C6 from rfl) (by simp)];simp only[go_sem,seval,C6]<;>rfl
def LL (O:ak jk)(V:(ak aj)×Int×Bool):Option (((ak aj)×Int×Bool)⊕(((ak aj)×Bool×Int))):=
 cond (decide (V.2.1<((O.getD []).length:Int)))
  (qa (ql (O.getD []) V.2.1) fun eE=>
  qa (f168 eE) fun v20=>
  cond V.2.2
   (qa (bB V.1 [v20]) fun v23=>
   En (.inl (v23,qd .i64 (V.2.1+1),Ha)))
   (cond V.1.isNone
    (qa (bB V.1 [v20]) fun v26=>
    En (.inl (v26,qd .i64 (V.2.1+1),Ha)))
    (If)))
  (En (.inr (V.1,V.2.2,V.2.1)))
def Q0 (O:ak jk)(V:(ak aj)×Int×Bool):bg:=⟨[(1,.fn (.func 168) [] [],Ga),(5,sl 1 qx V.1,V.2.2),(8,sl 5 jf O,Ga),(9,Lv O,Ga),(10,Iv V.2.1,Ga)],[]⟩
def Q5 (O:ak jk)(d:((ak aj)×Bool×Int)):q9×bg:=(.exit 0,⟨[(1,.fn (.func 168) [] [],Ga),(5,sl 1 qx d.1,d.2.1),(8,sl 5 jf O,Ga),(9,Lv O,Ga),(10,Iv d.2.2,Ga),(11,.bool Ga,Ga)],[]⟩)
theorem jwx (O:ak jk)(V:(ak aj)×Int×Bool)(r)(h:LL O V=En r):jo pr Q6 (Q0 O) (Q5 O) V r:=by
 unfold LL at h
 repeat' first|(replace h:=qb h;obtain⟨d,g,h⟩:=h;with_reducible first|replace g:=zdg [] g|replace g:=tI g|skip)|(replace h:=qc h;rcases h with⟨g,h⟩|⟨g,h⟩)
 all_goals (cases h<;>((first|refine qn ?_|refine jr ?_);simp only[go_sem,seval,Q6,Q0,ji,Q5, *]<;>rfl))
theorem jwl (O:ak jk){V:(ak aj)×Int×Bool}{d}(h:bd (LL O) V=En d):X pr (.loop Q6) (Q0 O V)=En (Q5 O d):=kz (jwx O) (fun d hh=>by cases hh) h
def f167 (O:ak jk):Option ((ak aj)×Bool):=
 qa (bd (LL O) (If,0,Ga)) fun d28=>
 En (d28.1,d28.2.1)
theorem zgy {O:ak jk}{r}(h:f167 O=En r):ae pr (X pr) 167 [sl 5 jf O,.fn (.func 168) [] []]=En (sl 1 qx r.1,r.2):=by
 unfold f167 at h;refine yc C7 ?_
 repeat' first|(replace h:=qb h;obtain⟨d,g,h⟩:=h;with_reducible first|(replace g:=jwl O g;dsimp only[Q0,Q5,zc]at g h)|skip)|(replace h:=qc h;rcases h with⟨g,h⟩|⟨g,h⟩)
 all_goals (cases h<;>(simp only[go_sem,seval,C7, *];exact⟨_,rfl⟩))
end Go.Z
namespace Go.Z
open Go Go.Abs Go.W
section
variable {H:qh}
theorem wE {p cs}(h:qv H p=En cs):p<H.length:=by
 unfold qv at h;rcases Nat.lt_or_ge p H.length with hl|hl
 .exact hl
 .rw[List.getElem?_eq_none hl]at h;cases h
theorem jju {p:Nat}{b:aM}(h:H[p]?=En b):p<H.length:=(I7.1 h).1
theorem C8 {p cs}(h:qv H p=En cs)(L:qh):qv (H++L) p=En cs:=by
 have:=wE h;unfold qv at h ⊢;rw[I9 this];exact h
theorem pf {p:Nat}{b:aM}(h:H[p]?=En b)(L:qh):(H++L)[p]?=En b:=by
 rw[I9 (jju h)];exact h
theorem rG (L:qh)(i:Nat):qv (H++L) (H.length+i)=qv L i:=by
 unfold qv;rw[I5 (by omega),show H.length+i-H.length=i by omega]
theorem uk (L:qh):qv (H++L) H.length=qv L 0:=rG L 0
theorem yl (L:qh)(i:Nat):(H++L)[H.length+i]?=L[i]?:=by
 rw[I5 (by omega),show H.length+i-H.length=i by omega]
theorem oq (L:qh):(H++L)[H.length]?=L[0]?:=yl L 0
theorem kl (L:qh)(i:Nat)(x:aM):(H++L).set (H.length+i) x=H++L.set i x:=by
 rw[List.set_append_right _ _ (by omega),show H.length+i-H.length=i by omega]
theorem nH (L:qh)(x:aM):(H++L).set H.length x=H++L.set 0 x:=kl L 0 x
theorem gQ {n i k:Nat}:decide (n+i<n+k)=decide (i<k):=decide_eq_decide.2 (by omega)
theorem gR {n k:Nat}:decide (n<n+k)=decide (0<k):=decide_eq_decide.2 (by omega)
theorem Ax {p:Nat}{cs}(h:H[p]?=En (.cells cs)):qv H p=En cs:=by unfold qv;rw[h]
end
theorem Q7 {H:qh}{p c:Nat}{x0 x1:AVal×Bool}{vs ls:Nat}{ss:List av}{r:av}(hp:qv H p=En [x0,x1,(.az c vs ls,Ga)])(hc:H[c]?=En (.vec 4 vs (ss.map zw)))(Q:ql (ss.take ls) (qd .i64 ((ls:Int)-1))=En r):
  ai pr (X pr) 103 [.ptr p 0] H=En (aR r,Ga,H++[kR r.day r.ay r.ah r.units]):=by
 have aW:=wE hp;have hlc:=jju hc;have g0:=C8 hp;have g1:∀h:qh,mM 4 h (En (.az c vs ls)) (En (Iv (qd .i64 ((ls:Int)-1))))=En ⟨.dW c vs ((qd .i64 ((ls:Int)-1)).toNat*4),Ga,If,h⟩:=fun h=>(Hs Q).1;have g2:iu (H.length+1) (En []) Ha 4 (H++[kZ]) (En (.dW c vs ((qd .i64 ((ls:Int)-1)).toNat*4)))=En ⟨aR r,Ga,If,H++[kZ]⟩:=jkq j82 (pf hc _) (by simp[sO,ze,qF,pu,Jj.mpr (show c<H.length+1 by omega)]) (Hs (sz:=4) (b:=0) (v:=0) (h:=[]) Q).2;rw[qg (show pr.br 103=En C9 from rfl) (by simp)]
 have hlt1:p<H.length+1:=by omega
 simp only[go_sem,seval,C9,g0,g1,g2,hlt1,Gd,Hc,gQ,gR,rG,uk,yl,oq,kl,nH]<;>rfl
def cO (H:qh)(p a b c:Nat)(P A B C:aM):qh:=(((H.set p P).set a A).set b B).set c C
structure D4 (H:qh)(p a b c:Nat):Prop where
 lp:p<H.length
 la:a<H.length
 lb:b<H.length
 lc:c<H.length
 pa:p≠a
 pb:p≠b
 pc:p≠c
 ab:a≠b
 ac:a≠c
 bc:b≠c
section
variable {H:qh}{p a b c:Nat}{P A B C:aM}
@[go_sem] theorem pg:(cO H p a b c P A B C).length=H.length:=by simp[cO]
theorem yB (D:D4 H p a b c):(cO H p a b c P A B C)[p]?=En P:=by
 have:=D.lp;simp[cO,Ik,D.pa.symm,D.pb.symm,D.pc.symm,this]
theorem j3r (D:D4 H p a b c):(cO H p a b c P A B C)[a]?=En A:=by
 have:=D.la;simp[cO,Ik,D.ab.symm,D.ac.symm,this]
theorem jod (D:D4 H p a b c):(cO H p a b c P A B C)[b]?=En B:=by
 have:=D.lb;simp[cO,Ik,D.bc.symm,this]
theorem jop (D:D4 H p a b c):(cO H p a b c P A B C)[c]?=En C:=by
 have:=D.lc;simp[cO,Ik,this]
theorem Da (D:D4 H p a b c){x}:(cO H p a b c P A B C).set p x=cO H p a b c x A B C:=by
 unfold cO;rw[Ir _ _ D.pc.symm,Ir _ _ D.pb.symm,Ir _ _ D.pa.symm,Iy]
theorem zh0 (D:D4 H p a b c){x}:(cO H p a b c P A B C).set a x=cO H p a b c P x B C:=by
 unfold cO;rw[Ir _ _ D.ac.symm,Ir _ _ D.ab.symm,Iy]
theorem zkd (D:D4 H p a b c){x}:(cO H p a b c P A B C).set b x=cO H p a b c P A x C:=by
 unfold cO;rw[Ir _ _ D.bc.symm,Iy]
theorem j9j (D:D4 H p a b c){x}:(cO H p a b c P A B C).set c x=cO H p a b c P A B x:=by
 unfold cO;rw[Iy]
theorem j9c (D:D4 H p a b c)(L:qh):(cO H p a b c P A B C++L)[p]?=En P:=pf (yB D) L
theorem jr4 (D:D4 H p a b c)(L:qh):(cO H p a b c P A B C++L)[a]?=En A:=pf (j3r D) L
theorem j5j (D:D4 H p a b c)(L:qh):(cO H p a b c P A B C++L)[b]?=En B:=pf (jod D) L
theorem j8z (D:D4 H p a b c)(L:qh):(cO H p a b c P A B C++L)[c]?=En C:=pf (jop D) L
theorem Ht (D:D4 H p a b c)(L:qh){x}:(cO H p a b c P A B C++L).set p x=cO H p a b c x A B C++L:=by
 rw[Ig _ _ (by rw[pg];exact D.lp),Da D]
theorem jr3 (D:D4 H p a b c)(L:qh){x}:(cO H p a b c P A B C++L).set a x=cO H p a b c P x B C++L:=by
 rw[Ig _ _ (by rw[pg];exact D.la),zh0 D]
theorem j68 (D:D4 H p a b c)(L:qh){x}:(cO H p a b c P A B C++L).set b x=cO H p a b c P A x C++L:=by
 rw[Ig _ _ (by rw[pg];exact D.lb),zkd D]
theorem j5x (D:D4 H p a b c)(L:qh){x}:(cO H p a b c P A B C++L).set c x=cO H p a b c P A B x++L:=by
 rw[Ig _ _ (by rw[pg];exact D.lc),j9j D]
theorem Db (D:D4 H p a b c){cs}:qv (cO H p a b c (.cells cs) A B C) p=En cs:=by unfold qv;rw[yB D]
theorem Hu (D:D4 H p a b c){cs}(L:qh):qv (cO H p a b c (.cells cs) A B C++L) p=En cs:=by unfold qv;rw[j9c D]
theorem Dc (L:qh)(i:Nat):qv (cO H p a b c P A B C++L) (H.length+i)=qv L i:=by
 have:=rG (H:=cO H p a b c P A B C) L i;rwa [pg]at this
theorem Dd (L:qh)(i:Nat):(cO H p a b c P A B C++L)[H.length+i]?=L[i]?:=by
 have:=yl (H:=cO H p a b c P A B C) L i;rwa [pg]at this
theorem De (L:qh)(i:Nat)(x:aM):(cO H p a b c P A B C++L).set (H.length+i) x=cO H p a b c P A B C++L.set i x:=by
 have:=kl (H:=cO H p a b c P A B C) L i x;rwa [pg]at this
theorem Hv (L:qh):qv (cO H p a b c P A B C++L) H.length=qv L 0:=Dc L 0
theorem Hw (L:qh):(cO H p a b c P A B C++L)[H.length]?=L[0]?:=Dd L 0
theorem Hx (L:qh)(x:aM):(cO H p a b c P A B C++L).set H.length x=cO H p a b c P A B C++L.set 0 x:=De L 0 x
theorem Df {n:Nat}{x:aM}(M:zj n x=Ha):∀ {H:qh} {i:Nat},qt n H=Ha->qt n (H.set i x)=Ha
 | [],i,h=>h
 |y::H,0,h=>by
  simp only[qt,Ii,List.set_cons_zero]at h ⊢;exact⟨M,h.2⟩
 |y::H,i+1,h=>by
  simp only[qt,Ii,List.set_cons_succ]at h ⊢;exact⟨h.1,Df M h.2⟩
theorem LM {n:Nat}(h:qt n H=Ha)(Y:zj n P=Ha)(I:zj n A=Ha)(h3:zj n B=Ha)(h4:zj n C=Ha):qt n (cO H p a b c P A B C)=Ha:=
 Df h4 (Df h3 (Df I (Df Y h)))
end
theorem Hy {n a b c x1 x2 y1 y2 z1 z2:Nat}(ha:a<n)(hb:b<n)(hc:c<n):zj n (.cells [(.az a x1 x2,Ga),(.az b y1 y2,Ga),(.az c z1 z2,Ga)])=Ha:=by
 simp[zj,zq,vK,ha,hb,hc]
abbrev sH (H:qh)(p a b c:Nat)(s:HV):qh:=cO H p a b c (kV s a b c) (.vec 5 s.ve (s.ev.map bK)) (.vec 5 s.vc (s.cs.map bK)) (.vec 4 s.vs (s.ss.map zw))
end Go.Z
namespace Go.Z
open Go Go.Abs Go.W
theorem jrv {H:qh}{p a b c:Nat}(D:D4 H p a b c)(hB:qt H.length H=Ha){s:HV}{e:aC}{q}(h:Cd s e=En q):∃hh,ai pr (X pr) 42 [.ptr p 0,aE e] (cO H p a b c (kV s a b c) (.vec 5 s.ve (s.ev.map bK)) (.vec 5 s.vc (s.cs.map bK)) (.vec 4 s.vs (s.ss.map zw)))=En (Iv q.1,Ga,hh)/\qz H.length (Iv q.1) hh=(cO H p a b c (.cells [(.az a q.2.ve q.2.ev.length,Ga),(.az b q.2.vc q.2.lc,Ga),(.az c q.2.vs q.2.ls,Ga)]) (.vec 5 q.2.ve (q.2.ev.map bK)) (.vec 5 q.2.vc (q.2.cs.map bK)) (.vec 4 q.2.vs (q.2.ss.map zw))):=by
 have eu:p<H.length+1:=Io D.lp;have eA:p<H.length+2:=Io eu;have ul:p<H.length+3:=Io eA;unfold Cd at h;rcases qc h with⟨Y,h⟩|⟨Y,h⟩
 .rcases qc h with⟨I,h⟩|⟨I,h⟩
  .obtain⟨e1,k1,h⟩:=qb h;have w1:=dI k1;rcases qc h with⟨h3,h⟩|⟨h3,h⟩
   .obtain⟨x,k2,h⟩:=qb h;obtain⟨e2,k3,h⟩:=qb h;obtain⟨e3,k4,h⟩:=qb h;have w2:=dI k3;have w3:ae pr (X pr) 35 [.list Ga 1 [Iv e1,Iv e2]]=En (Iv e3,Ga):=gC k4;have g1:∀h:qh,mM 5 h (En (.az b s.vc s.lc)) (En (Iv (max 0 (qd .i64 ((s.lc:Int)-1)))))=En ⟨.dW b s.vc ((max 0 (qd .i64 ((s.lc:Int)-1))).toNat*5),Ga,If,h⟩:=fun h=>(Hs k2).1;have g2:iu H.length If Ga 1 (cO H p a b c (kV s a b c) (.vec 5 s.ve (s.ev.map bK)) (.vec 5 s.vc (s.cs.map bK)) (.vec 4 s.vs (s.ss.map zw))) (En (.dW b s.vc ((max 0 (qd .i64 ((s.lc:Int)-1))).toNat*5+1)))=En ⟨.str x.kind,Ga,If,(cO H p a b c (kV s a b c) (.vec 5 s.ve (s.ev.map bK)) (.vec 5 s.vc (s.cs.map bK)) (.vec 4 s.vs (s.ss.map zw)))⟩:=jw8 (f:=bK) (o:=1) j3t (jod D) rfl (Hs (sz:=4) (b:=0) (v:=0) (h:=[]) k2).2 rfl;rcases qc h with⟨h4,h⟩|⟨h4,h⟩
    .rcases qc h with⟨h5,h⟩|⟨_,h⟩
     .obtain⟨ev,eO,h⟩:=qb h;cases h;have dz:=of_decide_eq_true h5;have IZ:ev.length=s.ev.length+1:=q46 eO;have g3:∀h:qh,qQ 5 h (En (.az b s.vc s.lc)) If (En (En (Iv (qd .i64 ((s.lc:Int)-1)))))=En ⟨.az b s.vc (qd .i64 ((s.lc:Int)-1)).toNat,Ga,If,h⟩:=fun h=>jwq dz.1 dz.2.1;have g4:∀h:qh,qQ 4 h (En (.az c s.vs s.ls)) If (En (En (Iv (s.lc:Int))))=En ⟨.az c s.vs s.lc,Ga,If,h⟩:=fun h=>jwq (by omega) (by have:=dz.2.2;omega);have g5:qP H.length 0 5 88 (cO H p a b c (.cells [(.az a s.ve s.ev.length,Ga),(.az b s.vc (qd .i64 ((s.lc:Int)-1)).toNat,Ga),(.az c s.vs s.lc,Ga)]) (.vec 5 s.ve (s.ev.map bK)) (.vec 5 s.vc (s.cs.map bK)) (.vec 4 s.vs (s.ss.map zw))++[.hole]) (En (.az a s.ve s.ev.length)) (En (.list Ga 5 [aE e]))=En ⟨.az a (s.ve+1) (s.ev.length+1),Ga,If,(cO H p a b c (.cells [(.az a s.ve s.ev.length,Ga),(.az b s.vc (qd .i64 ((s.lc:Int)-1)).toNat,Ga),(.az c s.vs s.lc,Ga)]) (.vec 5 (s.ve+1) (ev.map bK)) (.vec 5 s.vc (s.cs.map bK)) (.vec 4 s.vs (s.ss.map zw))++[.hole])⟩:=(LN (f:=bK) (x:=e) eO (jr4 D _) (by simp only[go_sem,seval]) (by decide) (by decide) (by decide)).trans (by rw[jr3 D]);refine⟨(cO H p a b c (.cells [(.az a (s.ve+1) (s.ev.length+1),Ga),(.az b s.vc (qd .i64 ((s.lc:Int)-1)).toNat,Ga),(.az c s.vs s.lc,Ga)]) (.vec 5 (s.ve+1) (ev.map bK)) (.vec 5 s.vc (s.cs.map bK)) (.vec 4 s.vs (s.ss.map zw))++[.hole]),?_,?_⟩
      .rw[qg (show pr.br 42=En kB from rfl) (by simp)];simp only[go_sem,seval,kB,Y,I,w1,h3,g1,g2,w2,w3,h4,g3,g4,g5,yB D,Db D,Hu D,Da D,Ht D,Dc,Hv,Dd,Hw,De,Hx,gQ,gR,Hc,Gd,Hb,D.lp,eu,eA,ul]<;>rfl
      .simp only[IZ];exact kx pg rfl (LM hB (Hy D.la D.lb D.lc) rfl rfl rfl)
     .cases h
    .cases h;refine⟨(cO H p a b c (kV s a b c) (.vec 5 s.ve (s.ev.map bK)) (.vec 5 s.vc (s.cs.map bK)) (.vec 4 s.vs (s.ss.map zw))),?_,zp pg⟩;rw[qg (show pr.br 42=En kB from rfl) (by simp)];simp only[go_sem,seval,kB,Y,I,w1,h3,g1,g2,w2,w3,h4,yB D,Db D,Hu D,Da D,Ht D,Dc,Hv,Dd,Hw,De,Hx,gQ,gR,Hc,Gd,Hb,D.lp,eu,eA,ul]<;>rfl
   .obtain⟨e2,k3,h⟩:=qb h;obtain⟨e3,k4,h⟩:=qb h;have w2:=dI k3;have w3:ae pr (X pr) 35 [.list Ga 1 [Iv e1,Iv e2]]=En (Iv e3,Ga):=gC k4;rcases qc h with⟨h4,h⟩|⟨h4,h⟩
    .cases h
    .cases h;refine⟨(cO H p a b c (kV s a b c) (.vec 5 s.ve (s.ev.map bK)) (.vec 5 s.vc (s.cs.map bK)) (.vec 4 s.vs (s.ss.map zw))),?_,zp pg⟩;rw[qg (show pr.br 42=En kB from rfl) (by simp)];simp only[go_sem,seval,kB,Y,I,w1,h3,w2,w3,h4,yB D,Db D,Hu D,Da D,Ht D,Dc,Hv,Dd,Hw,De,Hx,gQ,gR,Hc,Gd,Hb,D.lp,eu,eA,ul]<;>rfl
  .obtain⟨r,k1,h⟩:=qb h;obtain⟨v,k2,h⟩:=qb h;have w1:=Q7 (H:=sH H p a b c s) (x0:=(.az a s.ve s.ev.length,Ga)) (x1:=(.az b s.vc s.lc,Ga)) (vs:=s.vs) (ls:=s.ls) (ss:=s.ss) (Db D) (jop D) k1;have wa:qz H.length (aR r) (cO H p a b c (kV s a b c) (.vec 5 s.ve (s.ev.map bK)) (.vec 5 s.vc (s.cs.map bK)) (.vec 4 s.vs (s.ss.map zw))++[kR r.day r.ay r.ah r.units])=(cO H p a b c (kV s a b c) (.vec 5 s.ve (s.ev.map bK)) (.vec 5 s.vc (s.cs.map bK)) (.vec 4 s.vs (s.ss.map zw))):=kx pg (by simp only[go_sem,seval]) (LM hB (Hy D.la D.lb D.lc) rfl rfl rfl);have w2:ae pr (X pr) 129 [aR r,aE e]=En (.aI [aR v.1,Iv v.2],Ga):=jxm k2;rcases qc h with⟨h3,h⟩|⟨h3,h⟩
   .obtain⟨cs,hcs,h⟩:=qb h;obtain⟨ss,xd,h⟩:=qb h;obtain⟨ev,eO,h⟩:=qb h;cases h;have IZ:ev.length=s.ev.length+1:=q46 eO;have g1:qP H.length 0 5 88 (cO H p a b c (kV s a b c) (.vec 5 s.ve (s.ev.map bK)) (.vec 5 s.vc (s.cs.map bK)) (.vec 4 s.vs (s.ss.map zw))++[.hole,.hole]) (En (.az b s.vc s.lc)) (En (.list Ga 5 [aE e]))=En ⟨.az b (s.vc+1) (s.lc+1),Ga,If,(cO H p a b c (kV s a b c) (.vec 5 s.ve (s.ev.map bK)) (.vec 5 (s.vc+1) (cs.map bK)) (.vec 4 s.vs (s.ss.map zw))++[.hole,.hole])⟩:=(LN (f:=bK) (x:=e) hcs (j5j D _) (by simp only[go_sem,seval]) (by decide) (by decide) (by decide)).trans (by rw[j68 D]);have g2:qP H.length 1 4 80 (cO H p a b c (kV s a b c) (.vec 5 s.ve (s.ev.map bK)) (.vec 5 (s.vc+1) (cs.map bK)) (.vec 4 s.vs (s.ss.map zw))++[.hole,.hole]) (En (.az c s.vs s.ls)) (En (.list Ga 4 [aR v.1]))=En ⟨.az c (s.vs+1) (s.ls+1),Ga,If,(cO H p a b c (kV s a b c) (.vec 5 s.ve (s.ev.map bK)) (.vec 5 (s.vc+1) (cs.map bK)) (.vec 4 (s.vs+1) (ss.map zw))++[.hole,.hole])⟩:=(LN (f:=zw) (x:=v.1) xd (j8z D _) (by simp only[go_sem,seval]) (by decide) (by decide) (by decide)).trans (by rw[j5x D]);have g3:qP (H.length+2) 0 5 88 (cO H p a b c (.cells [(.az a s.ve s.ev.length,Ga),(.az b (s.vc+1) (s.lc+1),Ga),(.az c (s.vs+1) (s.ls+1),Ga)]) (.vec 5 s.ve (s.ev.map bK)) (.vec 5 (s.vc+1) (cs.map bK)) (.vec 4 (s.vs+1) (ss.map zw))++[.hole,.hole,.hole]) (En (.az a s.ve s.ev.length)) (En (.list Ga 5 [aE e]))=En ⟨.az a (s.ve+1) (s.ev.length+1),Ga,If,(cO H p a b c (.cells [(.az a s.ve s.ev.length,Ga),(.az b (s.vc+1) (s.lc+1),Ga),(.az c (s.vs+1) (s.ls+1),Ga)]) (.vec 5 (s.ve+1) (ev.map bK)) (.vec 5 (s.vc+1) (cs.map bK)) (.vec 4 (s.vs+1) (ss.map zw))++[.hole,.hole,.hole])⟩:=(LN (f:=bK) (x:=e) eO (jr4 D _) (by simp only[go_sem,seval]) (by decide) (by decide) (by decide)).trans (by rw[jr3 D]);refine⟨(cO H p a b c (.cells [(.az a (s.ve+1) (s.ev.length+1),Ga),(.az b (s.vc+1) (s.lc+1),Ga),(.az c (s.vs+1) (s.ls+1),Ga)]) (.vec 5 (s.ve+1) (ev.map bK)) (.vec 5 (s.vc+1) (cs.map bK)) (.vec 4 (s.vs+1) (ss.map zw))++[.hole,.hole,.hole]),?_,?_⟩
    .rw[qg (show pr.br 42=En kB from rfl) (by simp)];simp only[go_sem,seval,kB,Y,I,w1,wa,w2,h3,g1,g2,g3,yB D,Db D,Hu D,Da D,Ht D,Dc,Hv,Dd,Hw,De,Hx,gQ,gR,Hc,Gd,Hb,D.lp,eu,eA,ul]<;>rfl
    .simp only[IZ];exact kx pg rfl (LM hB (Hy D.la D.lb D.lc) rfl rfl rfl)
   .cases h;refine⟨(cO H p a b c (kV s a b c) (.vec 5 s.ve (s.ev.map bK)) (.vec 5 s.vc (s.cs.map bK)) (.vec 4 s.vs (s.ss.map zw))),?_,zp pg⟩;rw[qg (show pr.br 42=En kB from rfl) (by simp)];simp only[go_sem,seval,kB,Y,I,w1,wa,w2,h3,yB D,Db D,Hu D,Da D,Ht D,Dc,Hv,Dd,Hw,De,Hx,gQ,gR,Hc,Gd,Hb,D.lp,eu,eA,ul]<;>rfl
 .cases h;refine⟨(cO H p a b c (kV s a b c) (.vec 5 s.ve (s.ev.map bK)) (.vec 5 s.vc (s.cs.map bK)) (.vec 4 s.vs (s.ss.map zw))),?_,zp pg⟩;rw[qg (show pr.br 42=En kB from rfl) (by simp)];simp only[go_sem,seval,kB,Y,yB D,Db D,Hu D,Da D,Ht D,Dc,Hv,Dd,Hw,De,Hx,gQ,gR,Hc,Gd,Hb,D.lp,eu,eA,ul]<;>rfl
end Go.Z
namespace Go.Z
open Go Go.Abs Go.W
def dZ (H:qh)(p c:Nat)(P C:aM):qh:=(H.set p P).set c C
structure D2 (H:qh)(p c:Nat):Prop where
 lp:p<H.length
 lc:c<H.length
 pc:p≠c
section
variable {H:qh}{p c:Nat}{P C:aM}
@[go_sem] theorem um:(dZ H p c P C).length=H.length:=by simp[dZ]
theorem jg8 (D:D2 H p c):(dZ H p c P C)[p]?=En P:=by
 have:=D.lp;simp[dZ,Ik,D.pc.symm,this]
theorem jrh (D:D2 H p c):(dZ H p c P C)[c]?=En C:=by
 have:=D.lc;simp[dZ,Ik,this]
theorem LP (D:D2 H p c){x}:(dZ H p c P C).set p x=dZ H p c x C:=by
 unfold dZ;rw[Ir _ _ D.pc.symm,Iy]
theorem j6h (D:D2 H p c){x}:(dZ H p c P C).set c x=dZ H p c P x:=by
 unfold dZ;rw[Iy]
theorem jkw (D:D2 H p c)(L:qh):(dZ H p c P C++L)[p]?=En P:=pf (jg8 D) L
theorem jkg (D:D2 H p c)(L:qh):(dZ H p c P C++L)[c]?=En C:=pf (jrh D) L
theorem Q8 (D:D2 H p c)(L:qh){x}:(dZ H p c P C++L).set p x=dZ H p c x C++L:=by
 rw[Ig _ _ (by rw[um];exact D.lp),LP D]
theorem j3p (D:D2 H p c)(L:qh){x}:(dZ H p c P C++L).set c x=dZ H p c P x++L:=by
 rw[Ig _ _ (by rw[um];exact D.lc),j6h D]
theorem LS (D:D2 H p c){cs}:qv (dZ H p c (.cells cs) C) p=En cs:=by unfold qv;rw[jg8 D]
theorem Q9 (D:D2 H p c){cs}(L:qh):qv (dZ H p c (.cells cs) C++L) p=En cs:=by unfold qv;rw[jkw D]
theorem bc2 (L:qh)(i:Nat):qv (dZ H p c P C++L) (H.length+i)=qv L i:=by
 have:=rG (H:=dZ H p c P C) L i;rwa [um]at this
theorem Dg (L:qh)(i:Nat):(dZ H p c P C++L)[H.length+i]?=L[i]?:=by
 have:=yl (H:=dZ H p c P C) L i;rwa [um]at this
theorem Hz (L:qh)(i:Nat)(x:aM):(dZ H p c P C++L).set (H.length+i) x=dZ H p c P C++L.set i x:=by
 have:=kl (H:=dZ H p c P C) L i x;rwa [um]at this
theorem Ra (L:qh):qv (dZ H p c P C++L) H.length=qv L 0:=bc2 L 0
theorem LU (L:qh):(dZ H p c P C++L)[H.length]?=L[0]?:=Dg L 0
theorem Rb (L:qh)(x:aM):(dZ H p c P C++L).set H.length x=dZ H p c P C++L.set 0 x:=Hz L 0 x
theorem nb2 {L:qh}{k r:Nat}{x:aM}(h:L[k+r]?=En .hole):aQ (H.length+k) (dZ H p c P C++L) r x=En (dZ H p c P C++L.set (k+r) x):=by
 unfold aQ;rw[Nat.add_assoc,Dg,h,Hz]
theorem jiz {n:Nat}(h:qt n H=Ha)(Y:zj n P=Ha)(h4:zj n C=Ha):qt n (dZ H p c P C)=Ha:=
 Df h4 (Df Y h)
theorem LV {n:Nat}{x:aM}(M:zj n x=Ga):∀ {H:qh} {i:Nat},H[i]?=En x->qt n H=Ga
 | [],i,h=>by simp at h
 |y::H,0,h=>by
  simp only[List.getElem?_cons_zero,En.injEq]at h;simp only[qt,h,M,Bool.false_and]
 |y::H,i+1,h=>by
  simp only[List.getElem?_cons_succ]at h;simp only[qt,LV M h,Jn]
theorem jbu {n:Nat}{v:AVal}{x:aM}{h t:qh}{i:Nat}(hn:h.length=n)(hi:h[i]?=En x)(M:zj n x=Ga):qz n v (h++t)=h++t:=by
 unfold qz
 have ht:(h++t).take n=h:=by rw[<-hn,List.take_left'];rfl
 rw[ht,LV M hi,Jn];cases Nat.ble (h++t).length n<;>rfl
end
abbrev kP (c:Nat):aM:=.cells [(Nl,Ga),(Nl,Ga),(.az c 0 1,Ga)]
abbrev sI (H:qh)(p c:Nat):qh:=dZ H p c (kP c) (.vec 4 0 [aZ])
abbrev Ay (H:qh)(p c:Nat)(v:HV):qh:=dZ H p c (kV v (H.length+2) H.length c) (.vec 4 v.vs (v.ss.map zw))++[.vec 5 v.vc (v.cs.map bK),.hole,.vec 5 v.ve (v.ev.map bK)]
theorem jkr {H:qh}{p c:Nat}(D:D2 H p c)(hB:qt H.length H=Ha){e:aC}{q}(h:Cc e=En q):∃hh,ai pr (X pr) 42 [.ptr p 0,aE e] (sI H p c)=En (Iv q.1,Ga,hh)/\qz H.length (Iv q.1) hh=(match q.2 with
  |none=>sI H p c
  |some v=>Ay H p c v):=by
 have eu:p<H.length+1:=Io D.lp;have eA:p<H.length+2:=Io eu;have ul:p<H.length+3:=Io eA;unfold Cc at h;rcases qc h with⟨Y,h⟩|⟨Y,h⟩
 .rcases qc h with⟨I,h⟩|⟨I,h⟩
  .obtain⟨e1,k1,h⟩:=qb h;obtain⟨e2,k3,h⟩:=qb h;obtain⟨e3,k4,h⟩:=qb h;have w1:=dI k1;have w2:=dI k3;have w3:ae pr (X pr) 35 [.list Ga 1 [Iv e1,Iv e2]]=En (Iv e3,Ga):=gC k4;rcases qc h with⟨h4,h⟩|⟨h4,h⟩
   .cases h
   .cases h;refine⟨sI H p c,?_,zp um⟩;rw[qg (show pr.br 42=En kB from rfl) (by simp)];simp only[go_sem,seval,kB,Y,I,w1,w2,w3,h4,jec,zjg,jq6,LS D,Q9 D,LP D,Q8 D,bc2,Ra,Dg,LU,Hz,Rb,gQ,gR,Hc,Gd,Hb,D.lp,eu,eA,ul]<;>rfl
  .obtain⟨v,k2,h⟩:=qb h;have w1:=Q7 (H:=sI H p c) (x0:=(Nl,Ga)) (x1:=(Nl,Ga)) (vs:=0) (ls:=1) (ss:=[eb]) (r:=eb) (LS D) (jrh D) rfl;have wa:qz H.length (aR eb) (sI H p c++[kR eb.day eb.ay eb.ah eb.units])=sI H p c:=kx um rfl (jiz hB (by simp only[zj,zq,vK,D.lc,decide_true,Jo];rfl) rfl);have w2:ae pr (X pr) 129 [aR eb,aE e]=En (.aI [aR v.1,Iv v.2],Ga):=jxm k2;rcases qc h with⟨h3,h⟩|⟨h3,h⟩
   .cases h
    have g1:qP H.length 0 5 88 (sI H p c++[.hole,.hole]) (En (Nl)) (En (.list Ga 5 [aE e]))=En ⟨.az H.length 0 1,Ga,If,sI H p c++[.vec 5 0 [aE e],.hole]⟩:=by
     exact q8g (by simp) (by decide) (by decide) (by simp) (by simp only[go_sem,seval]) (by decide) (nb2 (k:=0) (r:=0) rfl)
    have g2:qP H.length 1 4 80 (sI H p c++[.vec 5 0 [aE e],.hole]) (En (.az c 0 1)) (En (.list Ga 4 [aR v.1]))=En ⟨.az c 1 2,Ga,If,dZ H p c (kP c) (.vec 4 1 [aZ,aR v.1])++[.vec 5 0 [aE e],.hole]⟩:=(LN (f:=zw) (l:=[eb]) (l':=[eb,v.1]) (x:=v.1) rfl (jkg D _) (by simp only[go_sem,seval]) (by decide) (by decide) (by decide)).trans (by rw[j3p D];rfl)
    have g3:qP (H.length+2) 0 5 88 (dZ H p c (.cells [(Nl,Ga),(.az H.length 0 1,Ga),(.az c 1 2,Ga)]) (.vec 4 1 [aZ,aR v.1])++[.vec 5 0 [aE e],.hole,.hole]) (En (Nl)) (En (.list Ga 5 [aE e]))=En ⟨.az (H.length+2) 0 1,Ga,If,dZ H p c (.cells [(Nl,Ga),(.az H.length 0 1,Ga),(.az c 1 2,Ga)]) (.vec 4 1 [aZ,aR v.1])++[.vec 5 0 [aE e],.hole,.vec 5 0 [aE e]]⟩:=by
     exact q8g (by simp) (by decide) (by decide) (by simp) (by simp only[go_sem,seval]) (by decide) (nb2 (k:=2) (r:=0) rfl)
    refine⟨Ay H p c { ev:=[e],ve:=0,cs:=[e],lc:=1,vc:=0,ss:=[eb,v.1],ls:=2,vs:=1 },?_,?_⟩
    .rw[qg (show pr.br 42=En kB from rfl) (by simp)];simp only[go_sem,seval,kB,Y,I,w1,wa,w2,h3,g1,g2,g3,jec,LS D,Q9 D,LP D,Q8 D,bc2,Ra,Dg,LU,Hz,Rb,gQ,gR,Hc,Gd,Hb,D.lp,eu,eA,ul]<;>rfl
    .exact jbu um (jg8 D) (by simp[zj,zq,vK])
   .cases h;refine⟨sI H p c,?_,zp um⟩;rw[qg (show pr.br 42=En kB from rfl) (by simp)];simp only[go_sem,seval,kB,Y,I,w1,wa,w2,h3,jec,LS D,Q9 D,LP D,Q8 D,bc2,Ra,Dg,LU,Hz,Rb,gQ,gR,Hc,Gd,Hb,D.lp,eu,eA,ul]<;>rfl
 .cases h;refine⟨sI H p c,?_,zp um⟩;rw[qg (show pr.br 42=En kB from rfl) (by simp)];simp only[go_sem,seval,kB,Y,LS D,Q9 D,LP D,Q8 D,bc2,Ra,Dg,LU,Hz,Rb,gQ,gR,Hc,Gd,Hb,D.lp,eu,eA,ul]<;>rfl
end Go.Z
namespace Go.Z
open Go Go.Abs Go.W
theorem j7z {H:qh}{e e':aC}(h:f46 e=En e'):∃L,ai pr (X pr) 46 [aE e] H=En (aE e',Ga,H++L):=by
 unfold f46 at h;obtain⟨v1,Y,h⟩:=qb h;obtain⟨v3,h3,h⟩:=qb h;have w1:=Z1 Y;have w3:=jzj h3;obtain⟨v1,o1⟩:=v1;obtain⟨v3,o3⟩:=v3
 cases o1<;>cases o3<;>cases h<;>rw[qg (show pr.br 46=En LW from rfl) (by simp)] <;>
  (simp only[go_sem,seval,LW,w1,w3,rG,uk,yl,oq,kl,nH,gQ,gR,Hc,Gd,Hb];exact⟨_,rfl⟩)
@[go_sem] theorem zbk {n h b o}:JV 1 n h (En (.ptr b o))=En ⟨.bool n,Ga,If,h⟩:=by cases n<;>rfl
@[go_sem] theorem j6l {n h}:JV 1 n h (En .bQ)=En ⟨.bool (!n),Ga,If,h⟩:=by cases n<;>rfl
def HA (l:List aC)(V:(ak aC)×Int×Bool):Option (((ak aC)×Int×Bool)⊕(((ak aC)×Bool×Int))):=
 cond (decide (V.2.1<(l.length:Int)))
  (qa (ql l V.2.1) fun da=>
  qa (f46 da) fun dA=>
  cond V.2.2
   (qa (bB V.1 [dA]) fun eF=>
   En (.inl (eF,qd .i64 (V.2.1+1),Ha)))
   (cond V.1.isNone
    (qa (bB V.1 [dA]) fun v20=>
    En (.inl (v20,qd .i64 (V.2.1+1),Ha)))
    (If)))
  (En (.inr (V.1,V.2.2,V.2.1)))
section
variable {H:qh}{a v:Nat}{l:List aC}
def HC (H:qh)(a v:Nat)(l:List aC)(V:(ak aC)×Int×Bool):bg:=⟨[(1,.fn (.func 46) [] [],Ga),(5,sl 5 bK V.1,V.2.2),(8,.az a v l.length,Ga),(9,.int .i64 (l.length:Int),Ga),(10,Iv V.2.1,Ga)],H⟩
def Rc (H:qh)(a v:Nat)(l:List aC)(d:((ak aC)×Bool×Int)):q9×bg:=(.exit 0,⟨[(1,.fn (.func 46) [] [],Ga),(5,sl 5 bK d.1,d.2.1),(8,.az a v l.length,Ga),(9,.int .i64 (l.length:Int),Ga),(10,Iv d.2.2,Ga),(11,.bool Ga,Ga)],H⟩)
theorem jda (ha:H[a]?=En (.vec 5 v (l.map bK))){i:Int}{x:aC}(M:ql l i=En x):
  (∀h:qh,mM 5 h (En (.az a v l.length)) (En (Iv i))=En ⟨.dW a v (i.toNat*5),Ga,If,h⟩)/\iu H.length If Ha 5 H (En (.dW a v (i.toNat*5)))=En ⟨aE x,Ga,If,H⟩:=by
 have fD:ql (l.take l.length) i=En x:=by rw[List.take_length];exact M
 exact⟨fun h=>(Hs fD).1,jkq j3t ha rfl (Hs (sz:=5) (b:=0) (v:=0) (h:=[]) fD).2⟩
theorem j76 (ha:H[a]?=En (.vec 5 v (l.map bK)))(hB:qt H.length H=Ha)(V:(ak aC)×Int×Bool)(r)(h:HA l V=En r):jo pr Az (HC H a v l) (Rc H a v l) V r:=by
 unfold HA at h;rcases qc h with⟨Y,h⟩|⟨Y,h⟩
 .obtain⟨x,I,h⟩:=qb h;obtain⟨y,h3,h⟩:=qb h;obtain⟨g1,g2⟩:=jda ha I;obtain⟨L,g3⟩:=j7z (H:=H) h3;have g4:qz H.length (aE y) (H++L)=H:=kx rfl (by simp only[go_sem,seval]) hB;rcases qc h with⟨h4,h⟩|⟨h4,h⟩
  .obtain⟨z,h5,h⟩:=qb h;cases h;exact z5 (bH:=HC H a v l (z,qd .i64 (V.2.1+1),Ha)) (by simp only[go_sem,seval,Az,HC,Y,g1,g2,g3,g4,h4,J3 h5]<;>rfl) (yg (I1 _))
  .rcases qc h with⟨h5,h⟩|⟨h5,h⟩
   .obtain⟨z,h6,h⟩:=qb h;cases h;exact z5 (bH:=HC H a v l (z,qd .i64 (V.2.1+1),Ha)) (by simp only[go_sem,seval,Az,HC,Y,g1,g2,g3,g4,h4,h5,Pa h6 h5]<;>rfl) (yg (I1 _))
   .cases h
 .cases h;exact qn (by simp only[go_sem,seval,Az,HC,Y,Rc]<;>rfl)
def HD (l:List aC):Option ((ak aC)×Bool):=
 qa (bd (HA l) (If,0,Ga)) fun d=>
 En (d.1,d.2.1)
theorem zdv (ha:H[a]?=En (.vec 5 v (l.map bK)))(hB:qt H.length H=Ha){r}(h:HD l=En r):ai pr (X pr) 45 [.az a v l.length,.fn (.func 46) [] []] H=En (sl 5 bK r.1,r.2,H):=by
 unfold HD at h;obtain⟨d,Y,h⟩:=qb h;cases h;have wl:X pr (.loop Az) ⟨[(1,.fn (.func 46) [] [],Ga),(5,.list Ha 0 [],Ga),(8,.az a v l.length,Ga),(9,.int .i64 (l.length:Int),Ga),(10,Iv 0,Ga)],H⟩=En (Rc H a v l d):=kz (j76 ha hB) (fun d hh=>by cases hh) Y;simp only[Rc]at wl;rw[qg (show pr.br 45=En LX from rfl) (by simp)];simp only[go_sem,seval,LX,wl]<;>rfl
theorem jpm {p:Nat}{x1 x2:AVal×Bool}(hp:qv H p=En [(.az a v l.length,Ga),x1,x2])(ha:H[a]?=En (.vec 5 v (l.map bK)))(hB:qt H.length H=Ha){r}(h:HD l=En r):ai pr (X pr) 12 [.ptr p 0] H=En (sl 5 bK r.1,r.2,H):=by
 have aW:=wE hp;have w:=zdv ha hB h;have wa:qz H.length (sl 5 bK r.1) H=H:=zp rfl;rw[qg (show pr.br 12=En Dh from rfl) (by simp)];simp only[go_sem,seval,Dh,hp,aW,w,wa,Gb]<;>rfl
theorem jhm:ai pr (X pr) 12 [.bQ] H=En (Nl,Ga,H):=by
 rw[qg (show pr.br 12=En Dh from rfl) (by simp)];simp only[go_sem,seval,Dh]<;>rfl
end
end Go.Z
namespace Go.Z
open Go Go.Abs Go.W
theorem joh {H:qh}{O:aC}{r}(h:f49 O=En r):ai aB (X aB) 49 [aE O] H=En (.str r,Ga,H):=by
 unfold f49 at h;obtain⟨v1,I,h⟩:=qb h;have lC:ae aB (X aB) 135 [.agg [.int .i64 O.number,.str O.kind,sl 1 qx O.names,sl 1 zf O.values,.str O.text]]=En (.str v1,Ga):=zix I;obtain⟨v3,h4,h⟩:=qb h;obtain⟨v5,h6,h⟩:=qb h;have rz:ae aB (X aB) 136 [.str v1]=En (.str v5,Ga):=jxb h6;obtain⟨v7,h8,h⟩:=qb h;obtain⟨v9,eh,h⟩:=qb h;have Q:v9=r:=En.inj h;subst Q;rw[qg (show aB.br 49=En c49 from rfl) (by simp)];simp only[go_sem,seval,c49,lC,lA h4,rz,lA h8,lA eh,Gb]<;>rfl
def HE (l:List aC)(V:(ak aj)×Int×Bool):Option (((ak aj)×Int×Bool)⊕(((ak aj)×Bool×Int))):=
 cond (decide (V.2.1<(l.length:Int)))
  (qa (ql l V.2.1) fun da=>
  qa (f49 da) fun dA=>
  cond V.2.2
   (qa (bB V.1 [dA]) fun eF=>
   En (.inl (eF,qd .i64 (V.2.1+1),Ha)))
   (cond V.1.isNone
    (qa (bB V.1 [dA]) fun v20=>
    En (.inl (v20,qd .i64 (V.2.1+1),Ha)))
    (If)))
  (En (.inr (V.1,V.2.2,V.2.1)))
section
variable {H:qh}{a v:Nat}{l:List aC}
def HF (H:qh)(a v:Nat)(l:List aC)(V:(ak aj)×Int×Bool):bg:=⟨[(1,.fn (.func 49) [] [],Ga),(5,sl 1 qx V.1,V.2.2),(8,.az a v l.length,Ga),(9,.int .i64 (l.length:Int),Ga),(10,Iv V.2.1,Ga)],H⟩
def Rd (H:qh)(a v:Nat)(l:List aC)(d:((ak aj)×Bool×Int)):q9×bg:=(.exit 0,⟨[(1,.fn (.func 49) [] [],Ga),(5,sl 1 qx d.1,d.2.1),(8,.az a v l.length,Ga),(9,.int .i64 (l.length:Int),Ga),(10,Iv d.2.2,Ga),(11,.bool Ga,Ga)],H⟩)
theorem j5n (ha:H[a]?=En (.vec 5 v (l.map bK)))(V:(ak aj)×Int×Bool)(r)(h:HE l V=En r):jo aB AA (HF H a v l) (Rd H a v l) V r:=by
 unfold HE at h;rcases qc h with⟨Y,h⟩|⟨Y,h⟩
 .obtain⟨x,I,h⟩:=qb h;obtain⟨y,h3,h⟩:=qb h;obtain⟨g1,g2⟩:=jda ha I;have g3:=joh (H:=H) h3;have g4:qz H.length (.str y) H=H:=zp rfl;rcases qc h with⟨h4,h⟩|⟨h4,h⟩
  .obtain⟨z,h5,h⟩:=qb h;cases h;exact z5 (bH:=HF H a v l (z,qd .i64 (V.2.1+1),Ha)) (by simp only[go_sem,seval,AA,HF,Y,g1,g2,g3,g4,h4,Pc h5]<;>rfl) (yg (I1 _))
  .rcases qc h with⟨h5,h⟩|⟨h5,h⟩
   .obtain⟨z,h6,h⟩:=qb h;cases h;exact z5 (bH:=HF H a v l (z,qd .i64 (V.2.1+1),Ha)) (by simp only[go_sem,seval,AA,HF,Y,g1,g2,g3,g4,h4,h5,XQ h6 h5]<;>rfl) (yg (I1 _))
   .cases h
 .cases h;exact qn (by simp only[go_sem,seval,AA,HF,Y,Rd]<;>rfl)
def Rf (l:List aC):Option ((ak aj)×Bool):=
 qa (bd (HE l) (If,0,Ga)) fun d=>
 En (d.1,d.2.1)
theorem zi4 (ha:H[a]?=En (.vec 5 v (l.map bK))){r}(h:Rf l=En r):ai aB (X aB) 48 [.az a v l.length,.fn (.func 49) [] []] H=En (sl 1 qx r.1,r.2,H):=by
 unfold Rf at h;obtain⟨d,Y,h⟩:=qb h;cases h;have wl:X aB (.loop AA) ⟨[(1,.fn (.func 49) [] [],Ga),(5,.list Ha 0 [],Ga),(8,.az a v l.length,Ga),(9,.int .i64 (l.length:Int),Ga),(10,Iv 0,Ga)],H⟩=En (Rd H a v l d):=kz (j5n ha) (fun d hh=>by cases hh) Y;simp only[Rd]at wl;rw[qg (show aB.br 48=En LY from rfl) (by simp)];simp only[go_sem,seval,LY,wl]<;>rfl
def f13 (l:List aC):Option aj:=qa (Rf l) fun r=>f47 r.1 []
theorem j8u {p:Nat}{x1 x2:AVal×Bool}(hp:qv H p=En [(.az a v l.length,Ga),x1,x2])(ha:H[a]?=En (.vec 5 v (l.map bK))){r}(h:f13 l=En r):ai aB (X aB) 13 [.ptr p 0] H=En (.str r,Ga,H):=by
 have aW:=wE hp;unfold f13 at h;obtain⟨q,Y,h⟩:=qb h;have w:=zi4 ha Y;have wa:qz H.length (sl 1 qx q.1) H=H:=zp rfl;have wj:=Hg h;rw[qg (show aB.br 13=En Di from rfl) (by simp)];simp only[go_sem,seval,Di,hp,aW,w,wa,wj,Gb]<;>rfl
theorem ju0:ai aB (X aB) 13 [.bQ] H=En (.str [],Ga,H):=by
 rw[qg (show aB.br 13=En Di from rfl) (by simp)];simp only[go_sem,seval,Di]<;>rfl
theorem j75 {p:Nat}{x1 x2:AVal×Bool}(hp:qv H p=En [(Nl,Ga),x1,x2]):ai aB (X aB) 13 [.ptr p 0] H=En (.str [],Ga,H):=by
 have aW:=wE hp
 have w:ai aB (X aB) 48 [Nl,.fn (.func 49) [] []] H=En (Nl,Ga,H):=by
  have wl:X aB (.loop AA) ⟨[(1,.fn (.func 49) [] [],Ga),(5,.list Ha 0 [],Ga),(8,Nl,Ga),(9,.int .i64 0,Ga),(10,Iv 0,Ga)],H⟩=En (.exit 0,⟨[(1,.fn (.func 49) [] [],Ga),(5,.list Ha 0 [],Ga),(8,Nl,Ga),(9,.int .i64 0,Ga),(10,Iv 0,Ga),(11,.bool Ga,Ga)],H⟩):=by
   rw[VY];simp only[go_sem,seval,AA,jq6]<;>rfl
  rw[qg (show aB.br 48=En LY from rfl) (by simp)];simp only[go_sem,seval,LY,wl]<;>rfl
 have wa:qz H.length Nl H=H:=zp rfl;have wj:ae aB (X aB) 47 [Nl,.str []]=En (.str [],Ga):=Hg (l:=none) (p:=[]) rfl;rw[qg (show aB.br 13=En Di from rfl) (by simp)];simp only[go_sem,seval,Di,hp,aW,w,wa,wj,Gb]<;>rfl
theorem jmv {p:Nat}{x1 x2:AVal×Bool}(hp:qv H p=En [(Nl,Ga),x1,x2]):ai pr (X pr) 12 [.ptr p 0] H=En (Nl,Ga,H):=by
 have aW:=wE hp
 have w:ai pr (X pr) 45 [Nl,.fn (.func 46) [] []] H=En (Nl,Ga,H):=by
  have wl:X pr (.loop Az) ⟨[(1,.fn (.func 46) [] [],Ga),(5,.list Ha 0 [],Ga),(8,Nl,Ga),(9,.int .i64 0,Ga),(10,Iv 0,Ga)],H⟩=En (.exit 0,⟨[(1,.fn (.func 46) [] [],Ga),(5,.list Ha 0 [],Ga),(8,Nl,Ga),(9,.int .i64 0,Ga),(10,Iv 0,Ga),(11,.bool Ga,Ga)],H⟩):=by
   rw[VY];simp only[go_sem,seval,Az,jq6]<;>rfl
  rw[qg (show pr.br 45=En LX from rfl) (by simp)];simp only[go_sem,seval,LX,wl]<;>rfl
 have wa:qz H.length Nl H=H:=zp rfl;rw[qg (show pr.br 12=En Dh from rfl) (by simp)];simp only[go_sem,seval,Dh,hp,aW,w,wa,Gb]<;>rfl
end
end Go.Z
namespace Go.Z
open Go Go.Abs Go.W
section
variable {H:qh}{r:av}{n:aj}
def f87 (r:av)(n:aj):Option (ak aj×Bool):=qa (f69 r n) fun i=>qa (ql (r.units.getD []) i) fun u=>f61 u
def f88 (r:av)(n:aj):Option (ak aj×Bool):=f89 r n
def f90 (r:av)(n:aj):Option (ak aj×Bool):=qa (f69 r n) fun i=>qa (ql (r.units.getD []) i) fun u=>f91 r u
def f92 (r:av)(n:aj):Option (ak aj×Bool):=qa (f93 r n) fun k=>qa (f43 k) fun s=>En (En [s],Ha)
def f94 (r:av)(n:aj):Option (ak aj×Bool):=qa (f95 r n) fun i=>qa (ql (r.ah.getD []) i) fun p=>qa (f96 p) fun v=>qa (f43 v) fun s=>En (En [s],Ha)
def f97 (r:av)(n:aj):Option (ak aj×Bool):=qa (LJ r.units) fun v=>f65 v.1
def f99 (r:av)(n:aj):Option (ak aj×Bool):=qa (f101 r.ay) fun v=>f167 v.1
theorem zei {q}(h:f87 r n=En q):ai aB (X aB) 87 [aR r,.str n] H=En (sl 1 qx q.1,q.2,H):=by
 unfold f87 at h;obtain⟨i,Y,h⟩:=qb h;obtain⟨u,I,h⟩:=qb h;have w1:=aH.ae (uo Y);have w2:=aH.ae (W61 h);rw[qg (show aB.br 87=En c87 from rfl) (by simp)];simp only[go_sem,seval,c87,w1,jn I,w2,Gb]<;>rfl
theorem zc9 {q}(h:f88 r n=En q):ai aB (X aB) 88 [aR r,.str n] H=En (sl 1 qx q.1,q.2,H):=by
 have w1:=aH.ae (W89 h);rw[qg (show aB.br 88=En c88 from rfl) (by simp)];simp only[go_sem,seval,c88,w1,Gb]<;>rfl
theorem zkj {q}(h:f90 r n=En q):ai aB (X aB) 90 [aR r,.str n] H=En (sl 1 qx q.1,q.2,H):=by
 unfold f90 at h;obtain⟨i,Y,h⟩:=qb h;obtain⟨u,I,h⟩:=qb h;have w1:=aH.ae (uo Y);have w2:=aH.ae (W91 h);rw[qg (show aB.br 90=En c90 from rfl) (by simp)];simp only[go_sem,seval,c90,w1,jn I,w2,Gb]<;>rfl
theorem zhc {q}(h:f92 r n=En q):ai aB (X aB) 92 [aR r,.str n] H=En (sl 1 qx q.1,q.2,H):=by
 unfold f92 at h;obtain⟨k,Y,h⟩:=qb h;obtain⟨s,I,h⟩:=qb h;cases h;have w1:=aH.ae (W93 Y);have w2:=Lh I;rw[qg (show aB.br 92=En c92 from rfl) (by simp)];simp only[go_sem,seval,c92,w1,w2,Gb]<;>rfl
theorem ze2 {q}(h:f94 r n=En q):ai aB (X aB) 94 [aR r,.str n] H=En (sl 1 qx q.1,q.2,H):=by
 unfold f94 at h;obtain⟨i,Y,h⟩:=qb h;obtain⟨p,I,h⟩:=qb h;obtain⟨v,h3,h⟩:=qb h;obtain⟨s,h4,h⟩:=qb h;cases h;have w1:=aH.ae (sJ Y);have w2:=aH.ae (W96 h3);have w3:=Lh h4;rw[qg (show aB.br 94=En c94 from rfl) (by simp)];simp only[go_sem,seval,c94,w1,jn I,w2,w3,Gb]<;>rfl
theorem zef {q}(h:f97 r n=En q):ai aB (X aB) 97 [aR r,.str n] H=En (sl 1 qx q.1,q.2,H):=by
 unfold f97 at h;obtain⟨v,Y,h⟩:=qb h;have w1:=aH.ae (zku Y);have w2:=aH.ae (W65 h);rw[qg (show aB.br 97=En c97 from rfl) (by simp)];simp only[go_sem,seval,c97,w1,w2,Gb]<;>rfl
theorem zh4 {o:ak jk}{q}(h:f167 o=En q):ae pr (X pr) 100 [sl 5 jf o]=En (sl 1 qx q.1,q.2):=by
 have w1:=zgy h;refine yc Dj ?_;simp only[go_sem,seval,Dj,w1];exact⟨_,rfl⟩
theorem zkq {q}(h:f99 r n=En q):ai aB (X aB) 99 [aR r,.str n] H=En (sl 1 qx q.1,q.2,H):=by
 unfold f99 at h;obtain⟨v,Y,h⟩:=qb h;have w1:=aH.ae (jy4 Y);have w2:=aH.ae (zh4 h);rw[qg (show aB.br 99=En c99 from rfl) (by simp)];simp only[go_sem,seval,c99,w1,w2,Gb]<;>rfl
theorem jzr {k:Int}{q}(h:f104 r k n=En q):ai aB (X aB) 104 [aR r,.int .i32 k,.str n] H=En (.bool q,Ga,H):=by
 unfold f104 at h;rcases qc h with⟨g1,h⟩|⟨g1,h⟩
 .obtain⟨v,Y,h⟩:=qb h;have w1:=aH.ae (Dk Y);cases h;rw[qg (show aB.br 104=En jR from rfl) (by simp)];simp only[go_sem,seval,jR,g1,w1,Gb]<;>rfl
 .rcases qc h with⟨g2,h⟩|⟨g2,h⟩
  .obtain⟨v,Y,h⟩:=qb h;have w1:=aH.ae (sJ Y);cases h;rw[qg (show aB.br 104=En jR from rfl) (by simp)];simp only[go_sem,seval,jR,g1,g2,w1,Gb]<;>rfl
  .rcases qc h with⟨g3,h⟩|⟨g3,h⟩
   .obtain⟨v,Y,h⟩:=qb h;have w1:=aH.ae (uo Y);cases h;rw[qg (show aB.br 104=En jR from rfl) (by simp)];simp only[go_sem,seval,jR,g1,g2,g3,w1,Gb]<;>rfl
   .cases h;rw[qg (show aB.br 104=En jR from rfl) (by simp)];simp only[go_sem,seval,jR,g1,g2,g3,Gb]<;>rfl
end
end Go.Z
namespace Go.Z
open Go Go.Abs Go.W
def eW:List (aj×Int×Nat):=[([108,111,116,115],117,87),([117,110,105,116,115],108,88),([109,105,115,115,105,110,103],117,90),([115,116,111,99,107],107,92),([118,101,114,115,105,111,110],112,94),([115,104,105,112,112,101,100],0,97),([104,101,108,100],0,99)]
def jS (x:aj):Option (aj×Int×Nat):=eW.find? fun f=>decide (x=f.1)
def LZ (x:aj):Int:=match jS x with
 |some f=>f.2.1|none=>0
def Dl (x:aj):AVal:=match jS x with
 |some f=>fnv f.2.2|none=>.cx
def Dm (x:aj):Bool:=(jS x).isSome
theorem jkf:jq=eW.map fun f=>(.str f.1,.agg [.int .i32 f.2.1,fnv f.2.2]):=rfl
theorem q5b (x:aj):∀(l:List (aj×Int×Nat)) (n:Nat),(j6 .str (.str x) (l.map fun f=>(.str f.1,.agg [.int .i32 f.2.1,fnv f.2.2])) n=En If/\l.find? (fun f=>decide (x=f.1))=If)\/∃i f,j6 .str (.str x) (l.map fun f=>(.str f.1,.agg [.int .i32 f.2.1,fnv f.2.2])) n=En (En (i,.agg [.int .i32 f.2.1,fnv f.2.2]))/\l.find? (fun f=>decide (x=f.1))=En f
 | [],n=>.inl ⟨rfl,rfl⟩
 |f::l,n=>by
  have he:nQ .str (.str x) (.str f.1)=En (decide (x=f.1)):=by
   show En (x == f.1)=_;by_cases M:x=f.1<;>simp[M]
  by_cases M:x=f.1
  .refine .inr ⟨n,f,?_,?_⟩
   .simp only[Jf,j6,he,decide_eq_true M]
   .simp[Jm,M]
  .rcases q5b x l (n+1)with⟨Y,I⟩|⟨i,g,Y,I⟩
   .exact .inl ⟨by simp only[Jf,j6,he,M,decide_false];exact Y,by simp only[Jm,M,decide_false];exact I⟩
   .exact .inr ⟨i,g,by simp only[Jf,j6,he,M,decide_false];exact Y,by simp only[Jm,M,decide_false];exact I⟩
@[go_sem] theorem zmd:aB.maps 37=En jq:=rfl
theorem HG {h:qh}(x:aj):tJ h (.agg [.int .i32 0,.cx]) (j6 .str (.str x) jq 0)=En ⟨.aI [.agg [.int .i32 (LZ x),Dl x],.bool (Dm x)],Ga,If,h⟩:=by
 rw[jkf];rcases q5b x eW 0 with⟨Y,I⟩|⟨i,f,Y,I⟩
 .rw[Y];simp only[tJ,LZ,Dl,Dm,jS,I];rfl
 .rw[Y];simp only[tJ,LZ,Dl,Dm,jS,I];rfl
@[go_sem] theorem zmf {x}:qk (Dl x)=Ha:=by
 unfold Dl;split
 .rename_i f _;simp only[fnv];cases Nat.beq f.2.2 0<;>rfl
 .rfl
abbrev Ans:=av->aj->Option (ak aj×Bool)
def AB (k:Nat):Ans:=match k with
 |87=>f87|88=>f88|90=>f90|92=>f92|94=>f94|97=>f97|99=>f99
 |_=>fun _ _=>If
theorem q7e {k:Nat}{H:qh}{r:av}{n:aj}{q}(h:AB k r n=En q):ai aB (X aB) k [aR r,.str n] H=En (sl 1 qx q.1,q.2,H):=by
 unfold AB at h;split at h
 .exact zei h
 .exact zc9 h
 .exact zkj h
 .exact zhc h
 .exact ze2 h
 .exact zef h
 .exact zkq h
 .cases h
def Dn (r:av)(role:Int)(k:Nat)(o:ak aj):Option (aj×Int):=
 cond (decide (((o.getD []).length:Int)=(if role=0 then 1 else 2)))
  (qa (f63 o []) fun e=>
  cond e (En ([],26))
   (qa (ql (o.getD []) (qd .i64 (if role=0 then 0 else 1))) fun name=>
   qa (f104 r role name) fun kn=>
   qa (f36 (!kn) 10) fun e1=>
   qa (cond (decide (role=107)) (qa (f105 name) fun i=>En (!i)) (En Ga)) fun b2=>
   qa (f36 b2 8) fun e2=>
   qa (f35 (En [e1,e2])) fun e3=>
   cond (decide (e3=0))
    (qa (AB k r name) fun q=>
    qa (f47 q.1 [32]) fun s=>
    En (cond (decide (s=[])) [110,111,110,101] s,0))
    (En ([],e3))))
  (En ([],26))
theorem j6d {H L:qh}{p k:Nat}{role:Int}{o:ak aj}{r:av}(hn:ai aB (X aB) 103 [.ptr p 0] H=En (aR r,Ga,H++L))(hB:qt H.length H=Ha){q}(h:Dn r role k o=En q):
  ai aB (X aB) 38 [.ptr p 0,.agg [.int .i32 role,.fn (.func k) [] []],sl 1 qx o] H=En (.aI [.str q.1,Iv q.2],Ga,H):=by
 have wa:qz H.length (aR r) (H++L)=H:=kx rfl (by simp only[go_sem,seval]) hB;unfold Dn at h;by_cases Q:role=0
 .have ij:decide (role=0)=Ha:=decide_eq_true Q;have hk:decide (role=107)=Ga:=decide_eq_false (by omega);simp only[if_pos Q]at h;rcases qc h with⟨Y,h⟩|⟨Y,h⟩
  .obtain⟨e,I,h⟩:=qb h;have w2:=aH.ae (QF I);rcases qc h with⟨h3,h⟩|⟨h3,h⟩
   .cases h;rw[h3]at w2;rw[qg (show aB.br 38=En iB from rfl) (by simp)];simp only[go_sem,seval,iB,ij,Y,w2,Gb]<;>rfl
   .rw[h3]at w2;obtain⟨name,h4,h⟩:=qb h;obtain⟨kn,h5,h⟩:=qb h;obtain⟨e1,h6,h⟩:=qb h;rw[hk,cond_false,qe]at h;obtain⟨e2,h8,h⟩:=qb h;obtain⟨e3,h9,h⟩:=qb h;have w5:=jzr (H:=H) h5;have wF:qz H.length (.bool kn) H=H:=zp rfl;have w6:=aH.ae (dI h6);have w8:=aH.ae (dI h8);have w9:ae aB (X aB) 35 [.list Ga 1 [Iv e1,Iv e2]]=En (Iv e3,Ga):=aH.ae (gC h9);rcases qc h with⟨eh,h⟩|⟨eh,h⟩
    .obtain⟨a,ei,h⟩:=qb h;obtain⟨s,kN,h⟩:=qb h;have wG:=q7e (H:=H) ei;have nI:qz H.length (sl 1 qx a.1) H=H:=zp rfl;have wx:=Hg kN;cases h;cases fX:decide (s=[])
     .rw[qg (show aB.br 38=En iB from rfl) (by simp)];simp only[go_sem,seval,iB,ij,Y,w2,hn,wa,jn h4,w5,wF,w6,hk,w8,w9,eh,wG,nI,wx,fX,Gb]<;>rfl
     .rw[qg (show aB.br 38=En iB from rfl) (by simp)];simp only[go_sem,seval,iB,ij,Y,w2,hn,wa,jn h4,w5,wF,w6,hk,w8,w9,eh,wG,nI,wx,fX,Gb]<;>rfl
    .cases h;rw[qg (show aB.br 38=En iB from rfl) (by simp)];simp only[go_sem,seval,iB,ij,Y,w2,hn,wa,jn h4,w5,wF,w6,hk,w8,w9,eh,Gb]<;>rfl
  .cases h;rw[qg (show aB.br 38=En iB from rfl) (by simp)];simp only[go_sem,seval,iB,ij,Y,Gb]<;>rfl
 .have ij:decide (role=0)=Ga:=decide_eq_false Q;simp only[if_neg Q]at h;rcases qc h with⟨Y,h⟩|⟨Y,h⟩
  .obtain⟨e,I,h⟩:=qb h;have w2:=aH.ae (QF I);rcases qc h with⟨h3,h⟩|⟨h3,h⟩
   .cases h;rw[h3]at w2;rw[qg (show aB.br 38=En iB from rfl) (by simp)];simp only[go_sem,seval,iB,ij,Y,w2,Gb]<;>rfl
   .rw[h3]at w2;obtain⟨name,h4,h⟩:=qb h;obtain⟨kn,h5,h⟩:=qb h;obtain⟨e1,h6,h⟩:=qb h;have w5:=jzr (H:=H) h5;have wF:qz H.length (.bool kn) H=H:=zp rfl;have w6:=aH.ae (dI h6)
    cases hk:decide (role=107)with
    |true=>
     rw[hk]at h;obtain⟨b2,h7,h⟩:=qb h;obtain⟨i,h71,h7⟩:=qb h7;obtain⟨e2,h8,h⟩:=qb h;obtain⟨e3,h9,h⟩:=qb h;have hb:=En.inj h7;rw[<-hb]at h8;have w7:=aH.ae (jym h71);have w8:=aH.ae (dI h8);have w9:ae aB (X aB) 35 [.list Ga 1 [Iv e1,Iv e2]]=En (Iv e3,Ga):=aH.ae (gC h9);rcases qc h with⟨eh,h⟩|⟨eh,h⟩
     .obtain⟨a,ei,h⟩:=qb h;obtain⟨s,kN,h⟩:=qb h;have wG:=q7e (H:=H) ei;have nI:qz H.length (sl 1 qx a.1) H=H:=zp rfl;have wx:=Hg kN;cases h;cases fX:decide (s=[])
      .rw[qg (show aB.br 38=En iB from rfl) (by simp)];simp only[go_sem,seval,iB,ij,Y,w2,hn,wa,jn h4,w5,wF,w6,hk,w7,w8,w9,eh,wG,nI,wx,fX,Gb]<;>rfl
      .rw[qg (show aB.br 38=En iB from rfl) (by simp)];simp only[go_sem,seval,iB,ij,Y,w2,hn,wa,jn h4,w5,wF,w6,hk,w7,w8,w9,eh,wG,nI,wx,fX,Gb]<;>rfl
     .cases h;rw[qg (show aB.br 38=En iB from rfl) (by simp)];simp only[go_sem,seval,iB,ij,Y,w2,hn,wa,jn h4,w5,wF,w6,hk,w7,w8,w9,eh,Gb]<;>rfl
    |false=>
     rw[hk,cond_false,qe]at h;obtain⟨e2,h8,h⟩:=qb h;obtain⟨e3,h9,h⟩:=qb h;have w8:=aH.ae (dI h8);have w9:ae aB (X aB) 35 [.list Ga 1 [Iv e1,Iv e2]]=En (Iv e3,Ga):=aH.ae (gC h9);rcases qc h with⟨eh,h⟩|⟨eh,h⟩
     .obtain⟨a,ei,h⟩:=qb h;obtain⟨s,kN,h⟩:=qb h;have wG:=q7e (H:=H) ei;have nI:qz H.length (sl 1 qx a.1) H=H:=zp rfl;have wx:=Hg kN;cases h;cases fX:decide (s=[])
      .rw[qg (show aB.br 38=En iB from rfl) (by simp)];simp only[go_sem,seval,iB,ij,Y,w2,hn,wa,jn h4,w5,wF,w6,hk,w8,w9,eh,wG,nI,wx,fX,Gb]<;>rfl
      .rw[qg (show aB.br 38=En iB from rfl) (by simp)];simp only[go_sem,seval,iB,ij,Y,w2,hn,wa,jn h4,w5,wF,w6,hk,w8,w9,eh,wG,nI,wx,fX,Gb]<;>rfl
     .cases h;rw[qg (show aB.br 38=En iB from rfl) (by simp)];simp only[go_sem,seval,iB,ij,Y,w2,hn,wa,jn h4,w5,wF,w6,hk,w8,w9,eh,Gb]<;>rfl
  .cases h;rw[qg (show aB.br 38=En iB from rfl) (by simp)];simp only[go_sem,seval,iB,ij,Y,Gb]<;>rfl
end Go.Z
namespace Go.Z
open Go Go.Abs Go.W
abbrev fO:aM:=.map jq
abbrev kC:aM:=.map jc
theorem jse:∀ f∈eW,Nat.beq f.2.2 0=Ga:=by decide
theorem ju8 {w:aj}{q}(h:jS w=En q):Dl w=.fn (.func q.2.2) [] []/\LZ w=q.2.1/\Dm w=Ha:=by
 refine⟨?_,?_,?_⟩
 .have hm:=I6 (show eW.find? (fun f=>decide (w=f.1))=En q from h);simp only[Dl,h,fnv,jse q hm,cond_false]
 .simp only[LZ,h]
 .simp only[Dm,h];rfl
theorem L0 {w:aj}(h:jS w=If):Dm w=Ga:=by simp only[Dm,h];rfl
section
variable {H:qh}{p:Nat}{e0 x1 x2:AVal×Bool}{n:Nat}{line:aj}{e1 e2 e3:Int}{l:ak aj}{w:aj}
theorem j0o (k1:f36 (decide (4096<(line.length:Int))) 27=En e1)(k2:f36 (decide (line=[])) 26=En e2)(k3:f35 (En [e1,e2])=En e3)(h3:decide (e3=0)=Ga):
  ai aB (X aB) 10 [.ptr p 0,.str line] H=En (.aI [.str [],Iv e3],Ga,H):=by
 have w1:=aH.ae (dI k1);have w2:=aH.ae (dI k2);have w3:ae aB (X aB) 35 [.list Ga 1 [Iv e1,Iv e2]]=En (Iv e3,Ga):=aH.ae (gC k3);rw[qg (show aB.br 10=En nJ from rfl) (by simp)];simp only[go_sem,seval,nJ,w1,w2,w3,h3,Gb]<;>rfl
theorem jaz:ai aB (X aB) 10 [.bQ,.str line] H=En (.aI [.str [],Iv 20],Ga,H):=by
 rw[qg (show aB.br 10=En nJ from rfl) (by simp)];simp only[go_sem,seval,nJ,Gb]<;>rfl
section
variable (k1:f36 (decide (4096<(line.length:Int))) 27=En e1)(k2:f36 (decide (line=[])) 26=En e2)(k3:f35 (En [e1,e2])=En e3)(h3:decide (e3=0)=Ha)(k4:f19 line [32]=En l)(k5:ql (l.getD []) 0=En w)
include k1 k2 k3 h3 k4 k5
theorem jsv {q r L a}(kq:jS w=En q)(hn:ai aB (X aB) 103 [.ptr p 0] (H++[fO])=En (aR r,Ga,(H++[fO])++L))(hB:qt (H++[fO]).length (H++[fO])=Ha)(ka:Dn r q.2.1 q.2.2 l=En a):
  ai aB (X aB) 10 [.ptr p 0,.str line] H=En (.aI [.str a.1,Iv a.2],Ga,H++[fO]):=by
 have w1:=aH.ae (dI k1);have w2:=aH.ae (dI k2);have w3:ae aB (X aB) 35 [.list Ga 1 [Iv e1,Iv e2]]=En (Iv e3,Ga):=aH.ae (gC k3);have w4:=Cz k4;obtain⟨q1,q2,q3⟩:=ju8 kq;have wk:=j6d hn hB ka;have wa:qz (H++[fO]).length (.aI [.str a.1,Iv a.2]) (H++[fO])=H++[fO]:=zp rfl;rw[qg (show aB.br 10=En nJ from rfl) (by simp)];simp only[go_sem,seval,nJ,w1,w2,w3,h3,w4,jn k5,HG,q1,q2,q3,yl,oq,kl,nH,gQ,gR,Hc,Iz,Iu,decide_false,decide_true,Ix,wk,wa,Gb]<;>rfl
theorem jvl (kq:jS w=If)(kf:lY w=Ga):ai aB (X aB) 10 [.ptr p 0,.str line] H=En (.aI [.str [],Iv 13],Ga,H++[fO,kC]):=by
 have w1:=aH.ae (dI k1);have w2:=aH.ae (dI k2);have w3:ae aB (X aB) 35 [.list Ga 1 [Iv e1,Iv e2]]=En (Iv e3,Ga):=aH.ae (gC k3);have w4:=Cz k4;have q3:=L0 kq;rw[qg (show aB.br 10=En nJ from rfl) (by simp)];simp only[go_sem,seval,nJ,w1,w2,w3,h3,w4,jn k5,HG,q3,tL,kf,yl,oq,kl,nH,gQ,gR,Hc,Iz,Iu,decide_false,decide_true,Ix,Gd,Hb,Gb]<;>rfl
section
variable (hp:qv H p=En [e0,x1,x2])(hl:∀h,vF 1 h (En e0.1)=En ⟨Iv (n:Int),Ga,If,h⟩)(kq:jS w=If)(kf:lY w=Ha){x:aC×Bool}(k6:f40 l (qd .i64 ((n:Int)+1))=En x){e4 e5 e6:Int}
  (k7:f36 (!x.2) 26=En e4) (k8:f36 (decide (1000<=(n:Int))) 5=En e5) (k9:f35 (En [e4,e5])=En e6)
include hp hl kq kf k6 k7 k8 k9
theorem jmu (h6:decide (e6=0)=Ga):ai aB (X aB) 10 [.ptr p 0,.str line] H=En (.aI [.str [],Iv e6],Ga,H++[fO,kC]):=by
 have w1:=aH.ae (dI k1);have w2:=aH.ae (dI k2);have w3:ae aB (X aB) 35 [.list Ga 1 [Iv e1,Iv e2]]=En (Iv e3,Ga):=aH.ae (gC k3);have w4:=Cz k4;have q3:=L0 kq;have w6:=Ll k6;have w7:=aH.ae (dI k7);have w8:=aH.ae (dI k8);have w9:ae aB (X aB) 35 [.list Ga 1 [Iv e4,Iv e5]]=En (Iv e6,Ga):=aH.ae (gC k9);have g0:=C8 hp;have aW:=wE hp
 have eA:p<H.length+2:=by omega
 rw[qg (show aB.br 10=En nJ from rfl) (by simp)];simp only[go_sem,seval,nJ,w1,w2,w3,h3,w4,jn k5,HG,q3,tL,kf,yl,oq,kl,nH,gQ,gR,Hc,Iz,Iu,decide_false,decide_true,Ix,Gd,Hb,Gb,g0,eA,hl,w6,w7,w8,w9,h6]<;>rfl
section
variable (h6:decide (e6=0)=Ha){c:Int}(AE:f41 x.1=En c)
include h6 AE
theorem jl0 (hc:decide (c=0)=Ga):ai aB (X aB) 10 [.ptr p 0,.str line] H=En (.aI [.str [],Iv c],Ga,H++[fO,kC]):=by
 have w1:=aH.ae (dI k1);have w2:=aH.ae (dI k2);have w3:ae aB (X aB) 35 [.list Ga 1 [Iv e1,Iv e2]]=En (Iv e3,Ga):=aH.ae (gC k3);have w4:=Cz k4;have q3:=L0 kq;have w6:=Ll k6;have w7:=aH.ae (dI k7);have w8:=aH.ae (dI k8);have w9:ae aB (X aB) 35 [.list Ga 1 [Iv e4,Iv e5]]=En (Iv e6,Ga):=aH.ae (gC k9);have L2:ae aB (X aB) 41 [aE x.1]=En (Iv c,Ga):=aH.ae (Lk AE);have g0:=C8 hp;have aW:=wE hp
 have eA:p<H.length+2:=by omega
 rw[qg (show aB.br 10=En nJ from rfl) (by simp)];simp only[go_sem,seval,nJ,w1,w2,w3,h3,w4,jn k5,HG,q3,tL,kf,yl,oq,kl,nH,gQ,gR,Hc,Iz,Iu,decide_false,decide_true,Ix,Gd,Hb,Gb,g0,eA,hl,w6,w7,w8,w9,h6,L2,hc]<;>rfl
section
variable (hc:decide (c=0)=Ha){q:Int}{hh H2:qh}(ka:ai aB (X aB) 42 [.ptr p 0,aE x.1] (H++[fO,kC])=En (Iv q,Ga,hh))(kw:qz (H.length+2) (Iv q) hh=H2)
include hc ka kw
theorem jyp (hq:decide (q=0)=Ga):ai aB (X aB) 10 [.ptr p 0,.str line] H=En (.aI [.str [],Iv q],Ga,H2):=by
 have w1:=aH.ae (dI k1);have w2:=aH.ae (dI k2);have w3:ae aB (X aB) 35 [.list Ga 1 [Iv e1,Iv e2]]=En (Iv e3,Ga):=aH.ae (gC k3);have w4:=Cz k4;have q3:=L0 kq;have w6:=Ll k6;have w7:=aH.ae (dI k7);have w8:=aH.ae (dI k8);have w9:ae aB (X aB) 35 [.list Ga 1 [Iv e4,Iv e5]]=En (Iv e6,Ga):=aH.ae (gC k9);have L2:ae aB (X aB) 41 [aE x.1]=En (Iv c,Ga):=aH.ae (Lk AE);have g0:=C8 hp;have aW:=wE hp
 have eA:p<H.length+2:=by omega
 rw[qg (show aB.br 10=En nJ from rfl) (by simp)];simp only[go_sem,seval,nJ,w1,w2,w3,h3,w4,jn k5,HG,q3,tL,kf,yl,oq,kl,nH,gQ,gR,Hc,Iz,Iu,decide_false,decide_true,Ix,Gd,Hb,Gb,g0,eA,hl,w6,w7,w8,w9,h6,L2,hc,ka,kw,hq]<;>rfl
theorem jtj (hq:decide (q=0)=Ha){s t:aj}(k11:f43 x.1.number=En s)(k12:gA ([100,111,110,101,32]:aj) s=En t):ai aB (X aB) 10 [.ptr p 0,.str line] H=En (.aI [.str t,Iv 0],Ga,H2):=by
 have w1:=aH.ae (dI k1);have w2:=aH.ae (dI k2);have w3:ae aB (X aB) 35 [.list Ga 1 [Iv e1,Iv e2]]=En (Iv e3,Ga):=aH.ae (gC k3);have w4:=Cz k4;have q3:=L0 kq;have w6:=Ll k6;have w7:=aH.ae (dI k7);have w8:=aH.ae (dI k8);have w9:ae aB (X aB) 35 [.list Ga 1 [Iv e4,Iv e5]]=En (Iv e6,Ga):=aH.ae (gC k9);have L2:ae aB (X aB) 41 [aE x.1]=En (Iv c,Ga):=aH.ae (Lk AE);have wG:=Lh k11;have g0:=C8 hp;have aW:=wE hp
 have eA:p<H.length+2:=by omega
 rw[qg (show aB.br 10=En nJ from rfl) (by simp)];simp only[go_sem,seval,nJ,w1,w2,w3,h3,w4,jn k5,HG,q3,tL,kf,yl,oq,kl,nH,gQ,gR,Hc,Iz,Iu,decide_false,decide_true,Ix,Gd,Hb,Gb,g0,eA,hl,w6,w7,w8,w9,h6,L2,hc,ka,kw,hq,wG,lA k12]<;>rfl
end
end
end
end
end
end Go.Z
namespace Go.Z
open Go Go.Abs Go.W
theorem HI {b n m:Nat}(h:n<=m)(hb:Nat.blt b n=Ha):Nat.blt b m=Ha:=Jj.mpr (Nat.lt_of_lt_of_le (Jj.mp hb) h)
mutual
theorem HJ {n m:Nat}(h:n<=m):∀x,Abs.below n x=Ha->Abs.below m x=Ha
 | .ms ..,hb=>by simp only[Abs.below]at hb ⊢;exact HI h hb
 | .ptr ..,hb=>by simp only[Abs.below]at hb ⊢;exact HI h hb
 | .map ..,hb=>by simp only[Abs.below]at hb ⊢;exact HI h hb
 | .az ..,hb=>by simp only[Abs.below]at hb ⊢;exact HI h hb
 | .dW ..,hb=>by simp only[Abs.below]at hb ⊢;exact HI h hb
 | .aq v,hb=>by simp only[Abs.below]at hb ⊢;exact HJ h v hb
 | .list _ _ xs,hb=>by simp only[Abs.below]at hb ⊢;exact HK h xs hb
 | .agg cs,hb=>by simp only[Abs.below]at hb ⊢;exact HK h cs hb
 | .aI vs,hb=>by simp only[Abs.below]at hb ⊢;exact HK h vs hb
 | .fn f fs cs,hb=>by
  have Y:=HK h fs;have I:=HK h cs
  cases f<;>simp only[Abs.below,Ii]at hb ⊢<;>first|exact⟨⟨HI h hb.1.1,Y hb.1.2⟩,I hb.2⟩|exact⟨Y hb.1,I hb.2⟩
 | .bool _,_=>rfl| .int _ _,_=>rfl| .str _,_=>rfl| .bQ,_=>rfl| .cg,_=>rfl| .cx,_=>rfl| .undef,_=>rfl| .any,_=>rfl| .db _,_=>rfl
theorem HK {n m:Nat}(h:n<=m):∀xs,qp n xs=Ha->qp m xs=Ha
 | [],_=>rfl
 |x::xs,hb=>by
  simp only[qp,Ii]at hb ⊢;exact⟨HJ h x hb.1,HK h xs hb.2⟩
end
theorem qny {n m:Nat}(h:n<=m):∀ {cs},zq n cs=Ha->zq m cs=Ha
 | [],_=>rfl
 |(v,_)::cs,hb=>by
  simp only[zq,Ii]at hb ⊢;exact⟨HJ h v hb.1,qny h hb.2⟩
theorem qkz {n m:Nat}(h:n<=m):∀ {cs},ke n cs=Ha->ke m cs=Ha
 | [],_=>rfl
 |(k,v)::cs,hb=>by
  simp only[ke,Ii]at hb ⊢;exact⟨⟨HJ h k hb.1.1,HJ h v hb.1.2⟩,qkz h hb.2⟩
theorem qsg {n m:Nat}(h:n<=m):∀ {cs},mT n cs=Ha->mT m cs=Ha
 | [],_=>rfl
 |(_,v,_)::cs,hb=>by
  simp only[mT,Ii]at hb ⊢;exact⟨HJ h v hb.1,qsg h hb.2⟩
theorem q50 {n m:Nat}(h:n<=m):∀ {x},zj n x=Ha->zj m x=Ha
 | .hole,_=>rfl| .cells cs,hb=>qny h hb| .map es,hb=>qkz h hb| .iter _ _,_=>rfl| .gD ..,_=>rfl| .dead,_=>rfl| .vec ..,_=>rfl| .loop l,hb=>qsg h hb
theorem L3 {n m:Nat}(h:n<=m):∀ {H},qt n H=Ha->qt m H=Ha
 | [],_=>rfl
 |x::H,hb=>by
  simp only[qt,Ii]at hb ⊢;exact⟨q50 h hb.1,L3 h hb.2⟩
theorem qkk {n:Nat}:∀ {H L:qh},qt n (H++L)=(qt n H&&qt n L)
 | [],L=>by simp[qt]
 |x::H,L=>by simp only[Ji,qt,qkk (H:=H),Bool.and_assoc]
theorem grown {H L:qh}(hB:qt H.length H=Ha)(hL:qt (H++L).length L=Ha):qt (H++L).length (H++L)=Ha:=by
 rw[qkk,hL,Jo];exact L3 (by rw[Gd];omega) hB
theorem HL {H:qh}{i:Nat}{x:aM}(h:H[i]?=En x):H.set i x=H:=by
 obtain⟨Y,I⟩:=I7.1 h;rw[<-I];exact List.set_getElem_self Y
structure lD (H:qh)(p a b c:Nat)(s:HV):Prop where
 d:D4 H p a b c
 hp:H[p]?=En (kV s a b c)
 ha:H[a]?=En (.vec 5 s.ve (s.ev.map bK))
 hb:H[b]?=En (.vec 5 s.vc (s.cs.map bK))
 hc:H[c]?=En (.vec 4 s.vs (s.ss.map zw))
 mR:qt H.length H=Ha
structure gS (H:qh)(p c:Nat):Prop where
 d:D2 H p c
 hp:H[p]?=En (kP c)
 hc:H[c]?=En (.vec 4 0 [aZ])
 mR:qt H.length H=Ha
section
variable {H L:qh}{p a b c:Nat}{s:HV}
theorem lD.eq (S:lD H p a b c s):sH H p a b c s=H:=by
 show(((H.set p _).set a _).set b _).set c _=H;rw[HL S.hp,HL S.ha,HL S.hb,HL S.hc]
theorem gS.eq (S:gS H p c):sI H p c=H:=by
 show(H.set p _).set c _=H;rw[HL S.hp,HL S.hc]
theorem D4.app (D:D4 H p a b c)(L:qh):D4 (H++L) p a b c:=by
 obtain⟨Y,I,h3,h4,h5,h6,h7,h8,h9,eh⟩:=D
 constructor<;>first|assumption|(rw[Gd];omega)
theorem D2.app (D:D2 H p c)(L:qh):D2 (H++L) p c:=by
 obtain⟨Y,I,h3⟩:=D
 constructor<;>first|assumption|(rw[Gd];omega)
theorem lD.app (S:lD H p a b c s)(hL:qt (H++L).length L=Ha):lD (H++L) p a b c s:=
 ⟨S.d.app L,pf S.hp L,pf S.ha L,pf S.hb L,pf S.hc L,grown S.mR hL⟩
theorem gS.app (S:gS H p c)(hL:qt (H++L).length L=Ha):gS (H++L) p c:=
 ⟨S.d.app L,pf S.hp L,pf S.hc L,grown S.mR hL⟩
theorem jt3 (D:D4 H p a b c){P A B C:aM}:cO (H++L) p a b c P A B C=cO H p a b c P A B C++L:=by
 unfold cO;rw[Ig _ _ D.lp,Ig _ _ (by rw[Jb];exact D.la),Ig _ _ (by simp only[Jb];exact D.lb),Ig _ _ (by simp only[Jb];exact D.lc)]
theorem Rg {P A B C:aM}:(cO H p a b c P A B C).length=H.length:=pg
theorem lD.iE (D:D4 H p a b c)(hB:qt H.length H=Ha):lD (sH H p a b c s) p a b c s:=by
 refine⟨?_,yB D,j3r D,jod D,jop D,?_⟩
 .obtain⟨Y,I,h3,h4,h5,h6,h7,h8,h9,eh⟩:=D
  constructor<;>first|assumption|(rw[Rg];assumption)
 .rw[Rg];exact LM hB (Hy D.la D.lb D.lc) rfl rfl rfl
theorem lD.first (D:D2 H p c)(hB:qt H.length H=Ha):lD (Ay H p c s) p (H.length+2) H.length c s:=by
 have hlen:(Ay H p c s).length=H.length+3:=by simp[Ay,Gd,um]
 refine⟨?_,jkw D _,?_,?_,jkg D _,?_⟩
 .have Y:=D.lp;have I:=D.lc;have h3:=D.pc
  constructor<;>first|exact h3|(rw[hlen];omega)|omega
 .exact Dg _ 2
 .exact LU _
 .rw[hlen];show qt (H.length+3) (dZ H p c _ _++_)=Ha;rw[qkk];have I:=D.lc;have hk:zj (H.length+3) (kV s (H.length+2) H.length c)=Ha:=Hy (by omega) (by omega) (by omega);rw[jiz (L3 (by omega) hB) hk rfl];rfl
end
structure SS where
 H:qh
 p:Nat
 a:Nat
 b:Nat
 c:Nat
 v:Option HV
def SS.ok (S:SS):Prop:=match S.v with
 |none=>gS S.H S.p S.c|some s=>lD S.H S.p S.a S.b S.c s
def SS.next (S:SS)(o:Option HV):SS:=match S.v,o with
 |some _,En s=>{ S with H:=sH S.H S.p S.a S.b S.c s,v:=En s }|none,En s=>{ H:=Ay (S.H++[fO,kC]) S.p S.c s,p:=S.p,a:=S.H.length+4,b:=S.H.length+2,c:=S.c,v:=En s }|_,If=>S
def ga:Option HV->List aC
 |none=>[]|some s=>s.ev
def HM (o:Option HV)(line:aj):Option (aj×Int×Option HV):=
 qa (f36 (decide (4096<(line.length:Int))) 27) fun e1=>
 qa (f36 (decide (line=[])) 26) fun e2=>
 qa (f35 (En [e1,e2])) fun e3=>
 cond (decide (e3=0))
  (qa (f19 line [32]) fun l=>
  qa (ql (l.getD []) 0) fun w=>
  match jS w with
  |some q=>qa (Px o) fun r=>qa (Dn r q.2.1 q.2.2 l) fun a=>En (a.1,a.2,o)
  |none=>cond (lY w)
    (qa (f40 l (qd .i64 (((ga o).length:Int)+1))) fun x=>
    qa (f36 (!x.2) 26) fun e4=>
    qa (f36 (decide (1000<=((ga o).length:Int))) 5) fun e5=>
    qa (f35 (En [e4,e5])) fun e6=>
    cond (decide (e6=0))
     (qa (f41 x.1) fun c=>
     cond (decide (c=0))
      (qa (sA o x.1) fun q=>
      cond (decide (q.1=0))
       (qa (f43 x.1.number) fun s=>
       qa (gA ([100,111,110,101,32]:aj) s) fun t=>En (t,0,q.2))
       (En ([],q.1,q.2)))
      (En ([],c,o)))
     (En ([],e6,o)))
    (En ([],13,o)))
  (En ([],e3,o))
theorem qp6 {n:Nat}:qt n [fO,kC]=Ha:=by
 refine L3 (Nat.zero_le n) ?_;rfl
theorem jed {n:Nat}:qt n [fO]=Ha:=by
 refine L3 (Nat.zero_le n) ?_;rfl
end Go.Z
end
