/- Chapter 10, plain. -/
import Derived.Test.YtoaianfagfampaaGreatDoorE1
import Derived.Test.YtoaianfagfampaaGreatDoorPS
set_option linter.all false
set_option maxRecDepth 100000
set_option maxHeartbeats 4000000
noncomputable section
open Option renaming some->Eb,none->G1
open Bool renaming false->Eg,true->E3,and_eq_true->E9,false_or->Hb,and_false->H3,and_true->H4
open List renaming append_nil->Eh,length_append->En,append_assoc->Ep,set_append_left->E8,mem_of_getElem?->G0,getElem?_set->G4,mem_append->G7,set_comm->G8,set_set->Hc,mem_singleton->He,getElem?_append_right->Hf,mem_of_find?_eq_some->Hg,getElem?_eq_some_iff->Hk,getElem?_append_left->Ho,not_mem_nil->Hp,length_set->Hq,mem_of_getLast?->Hs,map_cons->Hu,all_eq_true->Hx,cons_append->Hy,find?->H0
open Nat renaming add_zero->E4,lt_succ_of_lt->G5,lt_irrefl->Ha,sub_self->Hd,le_refl->Hr,blt_eq->Hz
namespace Go.Z
open Go Go.Abs Go.W
def Nm (s:Str):Prop:=s.length<=24/\s≠[]
structure NB (r:bX):Prop where
 L:∀x∈r.ay,Nm x.name/\0<=x.left/\x.left<=10000
 P:∀p∈r.ah,(∀t∈p.bW.aO,Nm t.k)/\∀d∈p.bg,∀t∈d.aO,Nm t.k
 U:∀u∈r.units,Nm u.name/\∀x∈u.uses,Nm x.k
theorem NB.empty:NB ku:=⟨fun p (hp:p∈([]:List _))=>absurd hp Hp,fun p (hp:p∈([]:List wh))=>absurd hp Hp,fun u (hu:u∈([]:List cH))=>absurd hu Hp⟩
theorem NB.bH {r}(h:NB r){i p}(hp:(∀t∈p.bW.aO,Nm t.k)/\∀d∈p.bg,∀t∈d.aO,Nm t.k):NB (bH r i p):=
 ⟨h.L,fun q hq=>by
  rcases sW hq with hq|rfl
  ·exact h.P q hq
  ·exact hp,h.U⟩
theorem NB.aH {r}(h:NB r){i u}(hu:Nm u.name/\∀x∈u.uses,Nm x.k):NB (aH r i u):=
 ⟨h.L,h.P,fun q hq=>by
  rcases sW hq with hq|rfl
  ·exact h.U q hq
  ·exact hu⟩
theorem NB.cx {r}(h:NB r){i x}(M:Nm x.name/\0<=x.left/\x.left<=10000):NB (cx r i x):=
 ⟨fun q hq=>by
  rcases sW hq with hq|rfl
  ·exact h.L q hq
  ·exact M,h.P,h.U⟩
theorem jez {α:Type}{p:α->Bool}{x y:α}{l}(h:y∈y6 p x l):y=x\/y∈l:=by
 unfold y6 at h;split at h
 .rcases sW h with h|h
  .exact .inr h
  .exact .inl h
 .rcases G7.1 h with h|h
  .exact .inr h
  .exact .inl (He.1 h)
theorem jgt {s:aj}(h:Go.W.b6 s=E3):Nm s:=by
 unfold Go.W.b6 at h;split at h
 .cases h
 .simp only[E9,decide_eq_true_eq]at h;exact⟨h.2,by simp⟩
theorem jud {e:cf}(h:jb e=0)(hu:e.kind≠jI):Nm (nm e 0)/\(e.kind=lu->Nm (nm e 1))/\0<=vl e 1:=by
 have hn:(∃f,z6 e.kind=Eb f/\e.names.length=f.1)/\(∀s∈e.names,Go.W.b6 s=E3)/\∀v∈e.values,0<=v:=by
  unfold jb at h;split at h
  .cases h
  split at h
  .cases h
  rename_i f hf;split at h
  .cases h
  rename_i hl;split at h
  .cases h
  rename_i hn;split at h
  .cases h
  rename_i hv;refine⟨⟨f,hf,by omega⟩,Hx.1 (by simpa using hn),fun v hm=>?_⟩;have hv:=Hx.1 (show(e.values.all fun n=>decide (0<=n)&&decide (n<=999999999))=E3 by simpa using hv) v hm;simp only[E9,decide_eq_true_eq]at hv;exact hv.1
 obtain⟨⟨f,hf,hl⟩,hn,iF⟩:=hn
 have oG:0<=vl e 1:=by
  unfold vl
  cases M:e.values[1]? with
  |none=>exact Int.le_refl _|some v=>exact iF v (G0 M)
 have g:∀i,i<e.names.length->Nm (nm e i):=fun i hi=>by
  unfold nm;rw[List.getElem?_eq_getElem hi];exact jgt (hn _ (List.getElem_mem hi))
 have hm:(e.kind,f)∈cz:=by
  unfold z6 at hf
  cases M:cz.find? fun x=>decide (x.1=e.kind)with
  |none=>rw[M]at hf;cases hf
  |some x=>
   rw[M]at hf;obtain rfl:x.2=f:=Eb.inj hf
   have Y:x.1=e.kind:=by simpa using List.find?_some M
   rw[<-Y];exact Hg M
 have k1:∀x∈cz,(x.1=jI\/0<x.2.1)/\(x.1=lu->1<x.2.1):=by decide
 obtain⟨k2,k3⟩:=k1 _ hm;refine⟨g 0 (k2.elim (fun k2=>absurd k2 hu) fun k2=>by rw[hl];exact k2),fun ht=>g 1 (by rw[hl];exact k3 ht),oG⟩
theorem jlp {r r' e}(hn:Nm (nm e 0)/\(e.kind=lu->Nm (nm e 1))/\0<=vl e 1)(h:NB r)(ha:apply (qf .i64) r e=.ok r'):NB r':=by
 have G:=hn.1;unfold apply at ha;split at ha
 .unfold oe at ha;split at ha
  .repeat' split at ha
   all_goals first|(cases ha;done)|skip
   cases ha;refine⟨fun x M=>?_,h.P,h.U⟩;rcases G7.1 M with M|M
   .exact h.L x M
   .simp at M;subst M;exact⟨G,by show 0<=vl e 1;omega,by show vl e 1<=10000;omega⟩
  split at ha
  .repeat' split at ha
   all_goals first|(cases ha;done)|skip
   cases ha;refine⟨h.L,fun p hp=>?_,h.U⟩;rcases G7.1 hp with hp|hp
   .exact h.P p hp
   .simp at hp;subst hp;simp
  .split at ha
   .cases ha
   repeat' split at ha
   all_goals first|(cases ha;done)|skip
   cases ha;refine⟨h.L,h.P,fun p hp=>?_⟩;rcases G7.1 hp with hp|hp
   .exact h.U p hp
   .simp at hp;subst hp;exact⟨G,by simp⟩
 split at ha
 .unfold og at ha;split at ha
  .cases ha
  split at ha
  .cases ha
  rename_i p hp;have hD:=h.P p (G0 hp)
  repeat' split at ha
  all_goals first|(cases ha;done)|skip
  .cases ha;exact h.bH ⟨hD.1,hD.2⟩
  .cases ha;refine h.bH ⟨fun t ht=>?_,hD.2⟩;rcases jez ht with rfl|ht
   .exact hn.2.1 (by assumption)
   .exact hD.1 t ht
  .cases ha;refine h.bH ⟨hD.1,fun d hd=>?_⟩;rcases G7.1 hd with hd|hd
   .exact hD.2 d hd
   .simp at hd;subst hd;exact hD.1
 split at ha
 .unfold sT at ha;split at ha
  .cases ha
  split at ha
  .cases ha
  rename_i x M;have hX:=h.L x (G0 M)
  repeat' split at ha
  all_goals first|(cases ha;done)|skip
  all_goals (cases ha;exact h.cx hX)
 .unfold oh at ha;split at ha
  .cases ha
  split at ha
  .cases ha
  rename_i u hu;have hN:=h.U u (G0 hu);split at ha
  .unfold uD at ha;split at ha
   .cases ha
   split at ha
   .cases ha
   rename_i x M;have hX:=h.L x (G0 M)
   repeat' split at ha
   all_goals first|(cases ha;done)|skip
   cases ha;apply NB.aH
   .apply NB.cx h;have hv:=hn.2.2;refine⟨hX.1,?_⟩;show 0<=qf .i64 (x.left-vl e 1)/\qf .i64 (x.left-vl e 1)<=10000;rw[MO (by omega) (by omega)];omega
   .refine⟨hN.1,fun y hy=>?_⟩;rcases qzs hy with hy|hy
    .rw[hy];exact hX.1
    .exact hN.2 y hy
  split at ha
  .unfold uH at ha;split at ha
   .cases ha
   split at ha
   .cases ha
   rename_i v hv;have hV:=h.U v (G0 hv)
   repeat' split at ha
   all_goals first|(cases ha;done)|skip
   cases ha;exact(h.aH (u:={ u with partner:=v.name }) ⟨hN.1,hN.2⟩).aH (u:={ v with partner:=u.name }) ⟨hV.1,hV.2⟩
  split at ha
  .repeat' split at ha
   all_goals first|(cases ha;done)|skip
   cases ha;exact h.aH ⟨hN.1,hN.2⟩
  split at ha
  .split at ha
   .cases ha
   split at ha
   .cases ha
   split at ha
   .cases ha
   .cases ha;exact h.aH ⟨hN.1,hN.2⟩
  split at ha
  .split at ha
   .cases ha
   .cases ha;exact h.aH ⟨hN.1,hN.2⟩
  .split at ha
   .cases ha
   .cases ha;exact h.aH ⟨hN.1,hN.2⟩
theorem jk6 {r r' e}(hn:Nm (nm e 0)/\(e.kind=lu->Nm (nm e 1))/\0<=vl e 1)(h:NB r)(ha:after (qf .i64) r e=.ok r'):NB r':=by
 unfold after at ha;split at ha
 .cases ha
 split at ha
 .cases ha
 rename_i r1 Y;cases ha;have:=jlp hn h Y;exact⟨this.L,this.P,this.U⟩
def HN (h:zz):Prop:=∀r∈h.2,NB r
theorem HN.empty:HN ([],[ku]):=by
 intro r Q;rw[He.1 Q];exact NB.empty
theorem HN.accept {h h' k e}(hc:jb e=0)(b:HN h)(ha:Go.W.accept (qf .i64) h k e=.ok h'):HN h':=by
 have dE:NB (now h):=by
  unfold now
  cases hl:h.2.getLast? with
  |none=>exact NB.empty|some r=>exact b r (Hs hl)
 unfold Go.W.accept at ha;split at ha
 .cases ha
 split at ha
 .split at ha
  .cases ha
  split at ha
  .cases ha
  .cases ha;intro r Q;exact b r ((List.dropLast_sublist h.2).subset Q)
 .rename_i hu;split at ha
  .cases ha
  .rename_i r' Y;cases ha;intro r Q;rcases G7.1 Q with Q|Q
   .exact b r Q
   .rw[He.1 Q];exact jk6 (jud hc hu) dE Y
theorem HN.now {h:zz}(b:HN h):NB (Go.W.now h):=by
 unfold Go.W.now
 cases hl:h.2.getLast? with
 |none=>exact NB.empty|some r=>exact b r (Hs hl)
theorem qyq:∀ {l:List cf} {i:Nat} {h h':zz},HN h->zy (qf .i64) i h l=.ok h'->HN h'
 | [],i,h,h',b,Q=>by simp only[zy]at Q;cases Q;exact b
 |e::l,i,h,h',b,Q=>by
  simp only[zy]at Q;split at Q
  .cases Q
  rename_i hc;split at Q
  .cases Q
  .rename_i Y ha;exact qyq (b.accept (by simpa using hc) ha) Q
theorem js2 {l:List cf}{h:zz}(Q:run (qf .i64) l=.ok h):HN h:=by
 unfold run at Q;split at Q
 .cases Q
 .exact qyq HN.empty Q
theorem qst {w:Int->Int}{e:cf}:∀ {l:List cf} {i:Nat} {h h' I:zz},zy w i h l=.ok h'->jb e=0->Go.W.accept w h' (((i+l.length:Nat):Int)+1) e=.ok I->zy w i h (l++[e])=.ok I
 | [],i,h,h',I,Q,hc,ha=>by
  simp only[zy]at Q;cases Q;simp only[List.nil_append,zy];rw[if_neg (by simp[hc])];rw[show((i:Int)+1)=(((i+([]:List cf).length:Nat):Int)+1) by simp,ha]
 |x::l,i,h,h',I,Q,hc,ha=>by
  simp only[zy,Hy]at Q ⊢;split at Q
  .cases Q
  rename_i M;rw[if_neg M];split at Q
  .cases Q
  .rename_i Y hh;exact qst Q hc (by rw[show i+1+l.length=i+(x::l).length by simp;omega];exact ha)
theorem q5t {w:Int->Int}{l:List cf}{e:cf}{h I:zz}(Q:run w l=.ok h)(hn:l.length<1000)(hc:jb e=0)(ha:Go.W.accept w h ((l.length:Int)+1) e=.ok I):run w (l++[e])=.ok I:=by
 unfold run at Q ⊢;rw[if_neg (by omega)]at Q;rw[if_neg (by simp;omega)];exact qst Q hc (by rw[Nat.zero_add];exact ha)
theorem qvw {w:Int->Int}:∀ {l:List cf} {i:Nat} {h h':zz},zy w i h l=.ok h'->∀e∈l,jb e=0
 | [],i,h,h',Q,e,he=>by cases he
 |x::l,i,h,h',Q,e,he=>by
  simp only[zy]at Q;split at Q
  .cases Q
  rename_i hc;split at Q
  .cases Q
  .rename_i Y ha;rcases List.mem_cons.1 he with rfl|he
   .simpa using hc
   .exact qvw Q e he
theorem N0 {w:Int->Int}{l:List cf}{h:zz}(Q:run w l=.ok h):l.length<=1000/\∀e∈l,jb e=0:=by
 unfold run at Q;split at Q
 .cases Q
 .exact⟨by omega,qvw Q⟩
end Go.Z
namespace Go.Z
open Go Go.Abs Go.W
def f63 (O:bp):Option Bool:=
 Eb O.ax
theorem W63 (hp:qi){O:bp}{r}(h:f63 O=Eb r):ai pr (X pr) 63 [aU O] hp=Eb (.bool r,Eg,hp):=by
 unfold f63 at h;have Q:O.ax=r:=Eb.inj h;subst Q;rw[qh (show pr.bn 63=Eb VE from rfl) (by simp)];simp only[go_sem,seval,VE]<;>rfl
def JO (O:ak bp)(V:(ak bp)×Int×Bool):Option (((ak bp)×Int×Bool)⊕(((ak bp)×Bool×Int))):=
 cond (decide (V.2.1<((O.getD []).length:Int)))
  (qc (qo (O.getD []) V.2.1) fun v20=>
  qc (f63 v20) fun v22=>
  cond v22
   (cond V.2.2
    (qc (bB V.1 [v20]) fun v26=>
    Eb (.inl (v26,qf .i64 (V.2.1+1),E3)))
    (cond V.1.isNone
     (qc (bB V.1 [v20]) fun et=>
     Eb (.inl (et,qf .i64 (V.2.1+1),E3)))
     (G1)))
   (Eb (.inl (V.1,qf .i64 (V.2.1+1),V.2.2))))
  (Eb (.inr (V.1,V.2.2,V.2.1)))
def N1 (O:ak bp)(V:(ak bp)×Int×Bool):bj:=⟨[(1,.fn (.func 63) [] [],Eg),(5,sl 8 bC V.1,V.2.2),(8,sl 8 bC O,Eg),(9,Lv O,Eg),(10,Iv V.2.1,Eg)],[]⟩
def N2 (O:ak bp)(d:((ak bp)×Bool×Int)):jc×bj:=(.exit 0,⟨[(1,.fn (.func 63) [] [],Eg),(5,sl 8 bC d.1,d.2.1),(8,sl 8 bC O,Eg),(9,Lv O,Eg),(10,Iv d.2.2,Eg),(11,.bool Eg,Eg)],[]⟩)
theorem ju8 (O:ak bp)(V:(ak bp)×Int×Bool)(r)(h:JO O V=Eb r):js pr Cb (N1 O) (N2 O) V r:=by
 unfold JO at h
 repeat' first|(replace h:=qd h;obtain⟨d,g,h⟩:=h;with_reducible first|replace g:=W63 [] g|replace g:=M7 g|skip)|(replace h:=qe h;rcases h with⟨g,h⟩|⟨g,h⟩)
 all_goals (cases h<;>((first|refine qw ?_|refine jy ?_);simp only[go_sem,seval,Cb,N1,jn,N2, *]<;>rfl))
theorem jun (O:ak bp){V:(ak bp)×Int×Bool}{d}(h:bu (JO O) V=Eb d):X pr (.loop Cb) (N1 O V)=Eb (N2 O d):=nC (ju8 O) (fun d hh=>by cases hh) h
def JP (O:ak bp):Option ((ak bp)×Bool):=
 qc (bu (JO O) (G1,0,Eg)) fun d31=>
 Eb (d31.1,d31.2.1)
theorem zaf {O:ak bp}{r}(h:JP O=Eb r):ae pr (X pr) 62 [sl 8 bC O,.fn (.func 63) [] []]=Eb (sl 8 bC r.1,r.2):=by
 unfold JP at h;refine yf JQ ?_
 repeat' first|(replace h:=qd h;obtain⟨d,g,h⟩:=h;with_reducible first|(replace g:=jun O g;dsimp only[N1,N2,zp]at g h)|skip)|(replace h:=qe h;rcases h with⟨g,h⟩|⟨g,h⟩)
 all_goals (cases h<;>(simp only[go_sem,seval,JQ, *];exact⟨_,rfl⟩))
def f130 (O:ji):Option aj:=
 Eb O.name
theorem j8y (hp:qi){O:ji}{r}(h:f130 O=Eb r):ai pr (X pr) 130 [aL O] hp=Eb (.str r,Eg,hp):=by
 unfold f130 at h;have Q:O.name=r:=Eb.inj h;subst Q;rw[qh (show pr.bn 130=Eb Cc from rfl) (by simp)];simp only[go_sem,seval,Cc]<;>rfl
def JR (O:ak ji)(V:(ak aj)×Int×Bool):Option (((ak aj)×Int×Bool)⊕(((ak aj)×Bool×Int))):=
 cond (decide (V.2.1<((O.getD []).length:Int)))
  (qc (qo (O.getD []) V.2.1) fun eU=>
  qc (f130 eU) fun v20=>
  cond V.2.2
   (qc (bB V.1 [v20]) fun v23=>
   Eb (.inl (v23,qf .i64 (V.2.1+1),E3)))
   (cond V.1.isNone
    (qc (bB V.1 [v20]) fun v26=>
    Eb (.inl (v26,qf .i64 (V.2.1+1),E3)))
    (G1)))
  (Eb (.inr (V.1,V.2.2,V.2.1)))
def N3 (O:ak ji)(V:(ak aj)×Int×Bool):bj:=⟨[(1,.fn (.func 130) [] [],Eg),(5,sl 1 jf V.1,V.2.2),(8,sl 5 jd O,Eg),(9,Lv O,Eg),(10,Iv V.2.1,Eg)],[]⟩
def N4 (O:ak ji)(d:((ak aj)×Bool×Int)):jc×bj:=(.exit 0,⟨[(1,.fn (.func 130) [] [],Eg),(5,sl 1 jf d.1,d.2.1),(8,sl 5 jd O,Eg),(9,Lv O,Eg),(10,Iv d.2.2,Eg),(11,.bool Eg,Eg)],[]⟩)
theorem jt1 (O:ak ji)(V:(ak aj)×Int×Bool)(r)(h:JR O V=Eb r):js pr N5 (N3 O) (N4 O) V r:=by
 unfold JR at h
 repeat' first|(replace h:=qd h;obtain⟨d,g,h⟩:=h;with_reducible first|replace g:=j8y [] g|replace g:=Fk g|skip)|(replace h:=qe h;rcases h with⟨g,h⟩|⟨g,h⟩)
 all_goals (cases h<;>((first|refine qw ?_|refine jy ?_);simp only[go_sem,seval,N5,N3,jn,N4, *]<;>rfl))
theorem jux (O:ak ji){V:(ak aj)×Int×Bool}{d}(h:bu (JR O) V=Eb d):X pr (.loop N5) (N3 O V)=Eb (N4 O d):=nC (jt1 O) (fun d hh=>by cases hh) h
def f129 (O:ak ji):Option ((ak aj)×Bool):=
 qc (bu (JR O) (G1,0,Eg)) fun d28=>
 Eb (d28.1,d28.2.1)
theorem j54 {O:ak ji}{r}(h:f129 O=Eb r):ae pr (X pr) 129 [sl 5 jd O,.fn (.func 130) [] []]=Eb (sl 1 jf r.1,r.2):=by
 unfold f129 at h;refine yf Cd ?_
 repeat' first|(replace h:=qd h;obtain⟨d,g,h⟩:=h;with_reducible first|(replace g:=jux O g;dsimp only[N3,N4,zp]at g h)|skip)|(replace h:=qe h;rcases h with⟨g,h⟩|⟨g,h⟩)
 all_goals (cases h<;>(simp only[go_sem,seval,Cd, *];exact⟨_,rfl⟩))
end Go.Z
namespace Go.Z
open Go Go.Abs Go.W
section
variable {H:qi}
theorem vi {p cs}(h:qy H p=Eb cs):p<H.length:=by
 unfold qy at h;rcases Nat.lt_or_ge p H.length with hl|hl
 .exact hl
 .rw[List.getElem?_eq_none hl]at h;cases h
theorem jf7 {p:Nat}{b:bG}(h:H[p]?=Eb b):p<H.length:=(Hk.1 h).1
theorem Ce {p cs}(h:qy H p=Eb cs)(L:qi):qy (H++L) p=Eb cs:=by
 have:=vi h;unfold qy at h ⊢;rw[Ho this];exact h
theorem oq {p:Nat}{b:bG}(h:H[p]?=Eb b)(L:qi):(H++L)[p]?=Eb b:=by
 rw[Ho (jf7 h)];exact h
theorem ph (L:qi)(i:Nat):qy (H++L) (H.length+i)=qy L i:=by
 unfold qy;rw[Hf (by omega),show H.length+i-H.length=i by omega]
theorem rB (L:qi):qy (H++L) H.length=qy L 0:=ph L 0
theorem yc (L:qi)(i:Nat):(H++L)[H.length+i]?=L[i]?:=by
 rw[Hf (by omega),show H.length+i-H.length=i by omega]
theorem lQ (L:qi):(H++L)[H.length]?=L[0]?:=yc L 0
theorem ke (L:qi)(i:Nat)(x:bG):(H++L).set (H.length+i) x=H++L.set i x:=by
 rw[List.set_append_right _ _ (by omega),show H.length+i-H.length=i by omega]
theorem lR (L:qi)(x:bG):(H++L).set H.length x=H++L.set 0 x:=ke L 0 x
theorem kz {n i k:Nat}:decide (n+i<n+k)=decide (i<k):=decide_eq_decide.2 (by omega)
theorem ky {n k:Nat}:decide (n<n+k)=decide (0<k):=decide_eq_decide.2 (by omega)
theorem zJ {p:Nat}{cs}(h:H[p]?=Eb (.cells cs)):qy H p=Eb cs:=by unfold qy;rw[h]
end
theorem N6 {H:qi}{p c:Nat}{x0 x1:AVal×Bool}{vs ls:Nat}{ss:List av}{r:av}(hp:qy H p=Eb [x0,x1,(.az c vs ls,Eg)])(hc:H[c]?=Eb (.vec 4 vs (ss.map ju)))(Q:qo (ss.take ls) (qf .i64 ((ls:Int)-1))=Eb r):
  ai pr (X pr) 36 [.ptr p 0] H=Eb (aR r,Eg,H++[kR r.day r.ay r.ah r.units]):=by
 have bh:=vi hp;have hlc:=jf7 hc;have g0:=Ce hp;have g1:∀h:qi,iR 4 h (Eb (.az c vs ls)) (Eb (Iv (qf .i64 ((ls:Int)-1))))=Eb ⟨.dN c vs ((qf .i64 ((ls:Int)-1)).toNat*4),Eg,G1,h⟩:=fun h=>(pi Q).1;have g2:kh (H.length+1) (Eb []) E3 4 (H++[kZ]) (Eb (.dN c vs ((qf .i64 ((ls:Int)-1)).toNat*4)))=Eb ⟨aR r,Eg,G1,H++[kZ]⟩:=M4 VF (oq hc _) (by simp[rI,j9,po,oA,Hz.mpr (show c<H.length+1 by omega)]) (pi (sz:=4) (b:=0) (v:=0) (h:=[]) Q).2;rw[qh (show pr.bn 36=Eb tm from rfl) (by simp)]
 have VG:p<H.length+1:=by omega
 simp only[go_sem,seval,tm,g0,g1,g2,VG,En,E4,kz,ky,ph,rB,yc,lQ,ke,lR]<;>rfl
def cK (H:qi)(p a b c:Nat)(P A B C:bG):qi:=(((H.set p P).set a A).set b B).set c C
structure D4 (H:qi)(p a b c:Nat):Prop where
 lp:p<H.length
 la:a<H.length
 lb:b<H.length
 lc:c<H.length
 pa:p≠a
 pb:p≠b
 pc:p≠c
 ab:a≠b
 ac:a≠c
 bc:b≠c
section
variable {H:qi}{p a b c:Nat}{P A B C:bG}
@[go_sem] theorem ot:(cK H p a b c P A B C).length=H.length:=by simp[cK]
theorem wW (D:D4 H p a b c):(cK H p a b c P A B C)[p]?=Eb P:=by
 have:=D.lp;simp[cK,G4,D.pa.symm,D.pb.symm,D.pc.symm,this]
theorem jsl (D:D4 H p a b c):(cK H p a b c P A B C)[a]?=Eb A:=by
 have:=D.la;simp[cK,G4,D.ab.symm,D.ac.symm,this]
theorem VH (D:D4 H p a b c):(cK H p a b c P A B C)[b]?=Eb B:=by
 have:=D.lb;simp[cK,G4,D.bc.symm,this]
theorem VI (D:D4 H p a b c):(cK H p a b c P A B C)[c]?=Eb C:=by
 have:=D.lc;simp[cK,G4,this]
theorem Cf (D:D4 H p a b c){x}:(cK H p a b c P A B C).set p x=cK H p a b c x A B C:=by
 unfold cK;rw[G8 _ _ D.pc.symm,G8 _ _ D.pb.symm,G8 _ _ D.pa.symm,Hc]
theorem zam (D:D4 H p a b c){x}:(cK H p a b c P A B C).set a x=cK H p a b c P x B C:=by
 unfold cK;rw[G8 _ _ D.ac.symm,G8 _ _ D.ab.symm,Hc]
theorem j75 (D:D4 H p a b c){x}:(cK H p a b c P A B C).set b x=cK H p a b c P A x C:=by
 unfold cK;rw[G8 _ _ D.bc.symm,Hc]
theorem jze (D:D4 H p a b c){x}:(cK H p a b c P A B C).set c x=cK H p a b c P A B x:=by
 unfold cK;rw[Hc]
theorem j1u (D:D4 H p a b c)(L:qi):(cK H p a b c P A B C++L)[p]?=Eb P:=oq (wW D) L
theorem jmm (D:D4 H p a b c)(L:qi):(cK H p a b c P A B C++L)[a]?=Eb A:=oq (jsl D) L
theorem jx7 (D:D4 H p a b c)(L:qi):(cK H p a b c P A B C++L)[b]?=Eb B:=oq (VH D) L
theorem j0e (D:D4 H p a b c)(L:qi):(cK H p a b c P A B C++L)[c]?=Eb C:=oq (VI D) L
theorem F4 (D:D4 H p a b c)(L:qi){x}:(cK H p a b c P A B C++L).set p x=cK H p a b c x A B C++L:=by
 rw[E8 _ _ (by rw[ot];exact D.lp),Cf D]
theorem jmr (D:D4 H p a b c)(L:qi){x}:(cK H p a b c P A B C++L).set a x=cK H p a b c P x B C++L:=by
 rw[E8 _ _ (by rw[ot];exact D.la),zam D]
theorem jx5 (D:D4 H p a b c)(L:qi){x}:(cK H p a b c P A B C++L).set b x=cK H p a b c P A x C++L:=by
 rw[E8 _ _ (by rw[ot];exact D.lb),j75 D]
theorem j1b (D:D4 H p a b c)(L:qi){x}:(cK H p a b c P A B C++L).set c x=cK H p a b c P A B x++L:=by
 rw[E8 _ _ (by rw[ot];exact D.lc),jze D]
theorem Cg (D:D4 H p a b c){cs}:qy (cK H p a b c (.cells cs) A B C) p=Eb cs:=by unfold qy;rw[wW D]
theorem F5 (D:D4 H p a b c){cs}(L:qi):qy (cK H p a b c (.cells cs) A B C++L) p=Eb cs:=by unfold qy;rw[j1u D]
theorem Ch (L:qi)(i:Nat):qy (cK H p a b c P A B C++L) (H.length+i)=qy L i:=by
 have:=ph (H:=cK H p a b c P A B C) L i;rwa [ot]at this
theorem Ci (L:qi)(i:Nat):(cK H p a b c P A B C++L)[H.length+i]?=L[i]?:=by
 have:=yc (H:=cK H p a b c P A B C) L i;rwa [ot]at this
theorem Cj (L:qi)(i:Nat)(x:bG):(cK H p a b c P A B C++L).set (H.length+i) x=cK H p a b c P A B C++L.set i x:=by
 have:=ke (H:=cK H p a b c P A B C) L i x;rwa [ot]at this
theorem F6 (L:qi):qy (cK H p a b c P A B C++L) H.length=qy L 0:=Ch L 0
theorem F7 (L:qi):(cK H p a b c P A B C++L)[H.length]?=L[0]?:=Ci L 0
theorem F8 (L:qi)(x:bG):(cK H p a b c P A B C++L).set H.length x=cK H p a b c P A B C++L.set 0 x:=Cj L 0 x
theorem Ck {n:Nat}{x:bG}(M:ze n x=E3):∀ {H:qi} {i:Nat},qr n H=E3->qr n (H.set i x)=E3
 | [],i,h=>h
 |y::H,0,h=>by
  simp only[qr,E9,List.set_cons_zero]at h ⊢;exact⟨M,h.2⟩
 |y::H,i+1,h=>by
  simp only[qr,E9,List.set_cons_succ]at h ⊢;exact⟨h.1,Ck M h.2⟩
theorem JS {n:Nat}(h:qr n H=E3)(Y:ze n P=E3)(I:ze n A=E3)(h3:ze n B=E3)(h4:ze n C=E3):qr n (cK H p a b c P A B C)=E3:=
 Ck h4 (Ck h3 (Ck I (Ck Y h)))
end
theorem F9 {n a b c x1 x2 y1 y2 z1 z2:Nat}(ha:a<n)(hb:b<n)(hc:c<n):ze n (.cells [(.az a x1 x2,Eg),(.az b y1 y2,Eg),(.az c z1 z2,Eg)])=E3:=by
 simp[ze,zn,qP,ha,hb,hc]
abbrev sH (H:qi)(p a b c:Nat)(s:HV):qi:=cK H p a b c (kV s a b c) (.vec 5 s.ve (s.ev.map vev)) (.vec 5 s.vc (s.cs.map vev)) (.vec 4 s.vs (s.ss.map ju))
end Go.Z
namespace Go.Z
open Go Go.Abs Go.W
theorem jm0 {H:qi}{p a b c:Nat}(D:D4 H p a b c)(hB:qr H.length H=E3){s:HV}{e:GEv}{q}(h:wF s e=Eb q):∃hh,ai pr (X pr) 25 [.ptr p 0,aE e] (cK H p a b c (kV s a b c) (.vec 5 s.ve (s.ev.map vev)) (.vec 5 s.vc (s.cs.map vev)) (.vec 4 s.vs (s.ss.map ju)))=Eb (Iv q.1,Eg,hh)/\qp H.length (Iv q.1) hh=(cK H p a b c (.cells [(.az a q.2.ve q.2.ev.length,Eg),(.az b q.2.vc q.2.lc,Eg),(.az c q.2.vs q.2.ls,Eg)]) (.vec 5 q.2.ve (q.2.ev.map vev)) (.vec 5 q.2.vc (q.2.cs.map vev)) (.vec 4 q.2.vs (q.2.ss.map ju))):=by
 have eh:p<H.length+1:=G5 D.lp;have en:p<H.length+2:=G5 eh;have pU:p<H.length+3:=G5 en;unfold wF at h;rcases qe h with⟨Y,h⟩|⟨Y,h⟩
 .rcases qe h with⟨I,h⟩|⟨I,h⟩
  .obtain⟨e1,k1,h⟩:=qd h;have w1:=dp k1;rcases qe h with⟨h3,h⟩|⟨h3,h⟩
   .obtain⟨x,k2,h⟩:=qd h;obtain⟨e2,k3,h⟩:=qd h;obtain⟨e3,k4,h⟩:=qd h;have w2:=dp k3;have w3:ae pr (X pr) 17 [.list Eg 1 [Iv e1,Iv e2]]=Eb (Iv e3,Eg):=fC k4;have g1:∀h:qi,iR 5 h (Eb (.az b s.vc s.lc)) (Eb (Iv (max 0 (qf .i64 ((s.lc:Int)-1)))))=Eb ⟨.dN b s.vc ((max 0 (qf .i64 ((s.lc:Int)-1))).toNat*5),Eg,G1,h⟩:=fun h=>(pi k2).1;have g2:kh H.length G1 Eg 1 (cK H p a b c (kV s a b c) (.vec 5 s.ve (s.ev.map vev)) (.vec 5 s.vc (s.cs.map vev)) (.vec 4 s.vs (s.ss.map ju))) (Eb (.dN b s.vc ((max 0 (qf .i64 ((s.lc:Int)-1))).toNat*5+1)))=Eb ⟨.str x.kind,Eg,G1,(cK H p a b c (kV s a b c) (.vec 5 s.ve (s.ev.map vev)) (.vec 5 s.vc (s.cs.map vev)) (.vec 4 s.vs (s.ss.map ju)))⟩:=jh3 (f:=vev) (o:=1) VJ (VH D) rfl (pi (sz:=4) (b:=0) (v:=0) (h:=[]) k2).2 rfl;rcases qe h with⟨h4,h⟩|⟨h4,h⟩
    .rcases qe h with⟨h5,h⟩|⟨_,h⟩
     .obtain⟨ev,dY,h⟩:=qd h;cases h;have cS:=of_decide_eq_true h5;have vL:ev.length=s.ev.length+1:=N7 dY;have g3:∀h:qi,nY 5 h (Eb (.az b s.vc s.lc)) G1 (Eb (Eb (Iv (qf .i64 ((s.lc:Int)-1)))))=Eb ⟨.az b s.vc (qf .i64 ((s.lc:Int)-1)).toNat,Eg,G1,h⟩:=fun h=>N8 cS.1 cS.2.1;have g4:∀h:qi,nY 4 h (Eb (.az c s.vs s.ls)) G1 (Eb (Eb (Iv (s.lc:Int))))=Eb ⟨.az c s.vs s.lc,Eg,G1,h⟩:=fun h=>N8 (by omega) (by have:=cS.2.2;omega);have g5:kD H.length 0 5 88 (cK H p a b c (.cells [(.az a s.ve s.ev.length,Eg),(.az b s.vc (qf .i64 ((s.lc:Int)-1)).toNat,Eg),(.az c s.vs s.lc,Eg)]) (.vec 5 s.ve (s.ev.map vev)) (.vec 5 s.vc (s.cs.map vev)) (.vec 4 s.vs (s.ss.map ju))++[.hole]) (Eb (.az a s.ve s.ev.length)) (Eb (.list Eg 5 [aE e]))=Eb ⟨.az a (s.ve+1) (s.ev.length+1),Eg,G1,(cK H p a b c (.cells [(.az a s.ve s.ev.length,Eg),(.az b s.vc (qf .i64 ((s.lc:Int)-1)).toNat,Eg),(.az c s.vs s.lc,Eg)]) (.vec 5 (s.ve+1) (ev.map vev)) (.vec 5 s.vc (s.cs.map vev)) (.vec 4 s.vs (s.ss.map ju))++[.hole])⟩:=(vj (f:=vev) (x:=e) dY (jmm D _) (by simp only[go_sem,seval]) (by decide) (by decide) (by decide)).trans (by rw[jmr D]);refine⟨(cK H p a b c (.cells [(.az a (s.ve+1) (s.ev.length+1),Eg),(.az b s.vc (qf .i64 ((s.lc:Int)-1)).toNat,Eg),(.az c s.vs s.lc,Eg)]) (.vec 5 (s.ve+1) (ev.map vev)) (.vec 5 s.vc (s.cs.map vev)) (.vec 4 s.vs (s.ss.map ju))++[.hole]),?_,?_⟩
      .rw[qh (show pr.bn 25=Eb eu from rfl) (by simp)];simp only[go_sem,seval,eu,Y,I,w1,h3,g1,g2,w2,w3,h4,g3,g4,g5,wW D,Cg D,F5 D,Cf D,F4 D,Ch,F6,Ci,F7,Cj,F8,kz,ky,E4,En,Ep,D.lp,eh,en,pU]<;>rfl
      .simp only[vL];exact pj ot rfl (JS hB (F9 D.la D.lb D.lc) rfl rfl rfl)
     .cases h
    .cases h;refine⟨(cK H p a b c (kV s a b c) (.vec 5 s.ve (s.ev.map vev)) (.vec 5 s.vc (s.cs.map vev)) (.vec 4 s.vs (s.ss.map ju))),?_,jw ot⟩;rw[qh (show pr.bn 25=Eb eu from rfl) (by simp)];simp only[go_sem,seval,eu,Y,I,w1,h3,g1,g2,w2,w3,h4,wW D,Cg D,F5 D,Cf D,F4 D,Ch,F6,Ci,F7,Cj,F8,kz,ky,E4,En,Ep,D.lp,eh,en,pU]<;>rfl
   .obtain⟨e2,k3,h⟩:=qd h;obtain⟨e3,k4,h⟩:=qd h;have w2:=dp k3;have w3:ae pr (X pr) 17 [.list Eg 1 [Iv e1,Iv e2]]=Eb (Iv e3,Eg):=fC k4;rcases qe h with⟨h4,h⟩|⟨h4,h⟩
    .cases h
    .cases h;refine⟨(cK H p a b c (kV s a b c) (.vec 5 s.ve (s.ev.map vev)) (.vec 5 s.vc (s.cs.map vev)) (.vec 4 s.vs (s.ss.map ju))),?_,jw ot⟩;rw[qh (show pr.bn 25=Eb eu from rfl) (by simp)];simp only[go_sem,seval,eu,Y,I,w1,h3,w2,w3,h4,wW D,Cg D,F5 D,Cf D,F4 D,Ch,F6,Ci,F7,Cj,F8,kz,ky,E4,En,Ep,D.lp,eh,en,pU]<;>rfl
  .obtain⟨r,k1,h⟩:=qd h;obtain⟨v,k2,h⟩:=qd h;have w1:=N6 (H:=sH H p a b c s) (x0:=(.az a s.ve s.ev.length,Eg)) (x1:=(.az b s.vc s.lc,Eg)) (vs:=s.vs) (ls:=s.ls) (ss:=s.ss) (Cg D) (VI D) k1;have wa:qp H.length (aR r) (cK H p a b c (kV s a b c) (.vec 5 s.ve (s.ev.map vev)) (.vec 5 s.vc (s.cs.map vev)) (.vec 4 s.vs (s.ss.map ju))++[kR r.day r.ay r.ah r.units])=(cK H p a b c (kV s a b c) (.vec 5 s.ve (s.ev.map vev)) (.vec 5 s.vc (s.cs.map vev)) (.vec 4 s.vs (s.ss.map ju))):=pj ot (by simp only[go_sem,seval]) (JS hB (F9 D.la D.lb D.lc) rfl rfl rfl);have w2:ae pr (X pr) 95 [aR r,aE e]=Eb (.bq [aR v.1,Iv v.2],Eg):=N9 k2;rcases qe h with⟨h3,h⟩|⟨h3,h⟩
   .obtain⟨cs,hcs,h⟩:=qd h;obtain⟨ss,rZ,h⟩:=qd h;obtain⟨ev,dY,h⟩:=qd h;cases h;have vL:ev.length=s.ev.length+1:=N7 dY;have g1:kD H.length 0 5 88 (cK H p a b c (kV s a b c) (.vec 5 s.ve (s.ev.map vev)) (.vec 5 s.vc (s.cs.map vev)) (.vec 4 s.vs (s.ss.map ju))++[.hole,.hole]) (Eb (.az b s.vc s.lc)) (Eb (.list Eg 5 [aE e]))=Eb ⟨.az b (s.vc+1) (s.lc+1),Eg,G1,(cK H p a b c (kV s a b c) (.vec 5 s.ve (s.ev.map vev)) (.vec 5 (s.vc+1) (cs.map vev)) (.vec 4 s.vs (s.ss.map ju))++[.hole,.hole])⟩:=(vj (f:=vev) (x:=e) hcs (jx7 D _) (by simp only[go_sem,seval]) (by decide) (by decide) (by decide)).trans (by rw[jx5 D]);have g2:kD H.length 1 4 80 (cK H p a b c (kV s a b c) (.vec 5 s.ve (s.ev.map vev)) (.vec 5 (s.vc+1) (cs.map vev)) (.vec 4 s.vs (s.ss.map ju))++[.hole,.hole]) (Eb (.az c s.vs s.ls)) (Eb (.list Eg 4 [aR v.1]))=Eb ⟨.az c (s.vs+1) (s.ls+1),Eg,G1,(cK H p a b c (kV s a b c) (.vec 5 s.ve (s.ev.map vev)) (.vec 5 (s.vc+1) (cs.map vev)) (.vec 4 (s.vs+1) (ss.map ju))++[.hole,.hole])⟩:=(vj (f:=ju) (x:=v.1) rZ (j0e D _) (by simp only[go_sem,seval]) (by decide) (by decide) (by decide)).trans (by rw[j1b D]);have g3:kD (H.length+2) 0 5 88 (cK H p a b c (.cells [(.az a s.ve s.ev.length,Eg),(.az b (s.vc+1) (s.lc+1),Eg),(.az c (s.vs+1) (s.ls+1),Eg)]) (.vec 5 s.ve (s.ev.map vev)) (.vec 5 (s.vc+1) (cs.map vev)) (.vec 4 (s.vs+1) (ss.map ju))++[.hole,.hole,.hole]) (Eb (.az a s.ve s.ev.length)) (Eb (.list Eg 5 [aE e]))=Eb ⟨.az a (s.ve+1) (s.ev.length+1),Eg,G1,(cK H p a b c (.cells [(.az a s.ve s.ev.length,Eg),(.az b (s.vc+1) (s.lc+1),Eg),(.az c (s.vs+1) (s.ls+1),Eg)]) (.vec 5 (s.ve+1) (ev.map vev)) (.vec 5 (s.vc+1) (cs.map vev)) (.vec 4 (s.vs+1) (ss.map ju))++[.hole,.hole,.hole])⟩:=(vj (f:=vev) (x:=e) dY (jmm D _) (by simp only[go_sem,seval]) (by decide) (by decide) (by decide)).trans (by rw[jmr D]);refine⟨(cK H p a b c (.cells [(.az a (s.ve+1) (s.ev.length+1),Eg),(.az b (s.vc+1) (s.lc+1),Eg),(.az c (s.vs+1) (s.ls+1),Eg)]) (.vec 5 (s.ve+1) (ev.map vev)) (.vec 5 (s.vc+1) (cs.map vev)) (.vec 4 (s.vs+1) (ss.map ju))++[.hole,.hole,.hole]),?_,?_⟩
    .rw[qh (show pr.bn 25=Eb eu from rfl) (by simp)];simp only[go_sem,seval,eu,Y,I,w1,wa,w2,h3,g1,g2,g3,wW D,Cg D,F5 D,Cf D,F4 D,Ch,F6,Ci,F7,Cj,F8,kz,ky,E4,En,Ep,D.lp,eh,en,pU]<;>rfl
    .simp only[vL];exact pj ot rfl (JS hB (F9 D.la D.lb D.lc) rfl rfl rfl)
   .cases h;refine⟨(cK H p a b c (kV s a b c) (.vec 5 s.ve (s.ev.map vev)) (.vec 5 s.vc (s.cs.map vev)) (.vec 4 s.vs (s.ss.map ju))),?_,jw ot⟩;rw[qh (show pr.bn 25=Eb eu from rfl) (by simp)];simp only[go_sem,seval,eu,Y,I,w1,wa,w2,h3,wW D,Cg D,F5 D,Cf D,F4 D,Ch,F6,Ci,F7,Cj,F8,kz,ky,E4,En,Ep,D.lp,eh,en,pU]<;>rfl
 .cases h;refine⟨(cK H p a b c (kV s a b c) (.vec 5 s.ve (s.ev.map vev)) (.vec 5 s.vc (s.cs.map vev)) (.vec 4 s.vs (s.ss.map ju))),?_,jw ot⟩;rw[qh (show pr.bn 25=Eb eu from rfl) (by simp)];simp only[go_sem,seval,eu,Y,wW D,Cg D,F5 D,Cf D,F4 D,Ch,F6,Ci,F7,Cj,F8,kz,ky,E4,En,Ep,D.lp,eh,en,pU]<;>rfl
end Go.Z
namespace Go.Z
open Go Go.Abs Go.W
def dU (H:qi)(p c:Nat)(P C:bG):qi:=(H.set p P).set c C
structure D2 (H:qi)(p c:Nat):Prop where
 lp:p<H.length
 lc:c<H.length
 pc:p≠c
section
variable {H:qi}{p c:Nat}{P C:bG}
@[go_sem] theorem pV:(dU H p c P C).length=H.length:=by simp[dU]
theorem VK (D:D2 H p c):(dU H p c P C)[p]?=Eb P:=by
 have:=D.lp;simp[dU,G4,D.pc.symm,this]
theorem jmh (D:D2 H p c):(dU H p c P C)[c]?=Eb C:=by
 have:=D.lc;simp[dU,G4,this]
theorem JT (D:D2 H p c){x}:(dU H p c P C).set p x=dU H p c x C:=by
 unfold dU;rw[G8 _ _ D.pc.symm,Hc]
theorem j1m (D:D2 H p c){x}:(dU H p c P C).set c x=dU H p c P x:=by
 unfold dU;rw[Hc]
theorem jgr (D:D2 H p c)(L:qi):(dU H p c P C++L)[p]?=Eb P:=oq (VK D) L
theorem jfr (D:D2 H p c)(L:qi):(dU H p c P C++L)[c]?=Eb C:=oq (jmh D) L
theorem Oa (D:D2 H p c)(L:qi){x}:(dU H p c P C++L).set p x=dU H p c x C++L:=by
 rw[E8 _ _ (by rw[pV];exact D.lp),JT D]
theorem jsh (D:D2 H p c)(L:qi){x}:(dU H p c P C++L).set c x=dU H p c P x++L:=by
 rw[E8 _ _ (by rw[pV];exact D.lc),j1m D]
theorem JU (D:D2 H p c){cs}:qy (dU H p c (.cells cs) C) p=Eb cs:=by unfold qy;rw[VK D]
theorem Ob (D:D2 H p c){cs}(L:qi):qy (dU H p c (.cells cs) C++L) p=Eb cs:=by unfold qy;rw[jgr D]
theorem bc2 (L:qi)(i:Nat):qy (dU H p c P C++L) (H.length+i)=qy L i:=by
 have:=ph (H:=dU H p c P C) L i;rwa [pV]at this
theorem Cl (L:qi)(i:Nat):(dU H p c P C++L)[H.length+i]?=L[i]?:=by
 have:=yc (H:=dU H p c P C) L i;rwa [pV]at this
theorem Ga (L:qi)(i:Nat)(x:bG):(dU H p c P C++L).set (H.length+i) x=dU H p c P C++L.set i x:=by
 have:=ke (H:=dU H p c P C) L i x;rwa [pV]at this
theorem Oc (L:qi):qy (dU H p c P C++L) H.length=qy L 0:=bc2 L 0
theorem JV (L:qi):(dU H p c P C++L)[H.length]?=L[0]?:=Cl L 0
theorem Od (L:qi)(x:bG):(dU H p c P C++L).set H.length x=dU H p c P C++L.set 0 x:=Ga L 0 x
theorem nb2 {L:qi}{k r:Nat}{x:bG}(h:L[k+r]?=Eb .hole):aK (H.length+k) (dU H p c P C++L) r x=Eb (dU H p c P C++L.set (k+r) x):=by
 unfold aK;rw[Nat.add_assoc,Cl,h,Ga]
theorem jgm {n:Nat}(h:qr n H=E3)(Y:ze n P=E3)(h4:ze n C=E3):qr n (dU H p c P C)=E3:=
 Ck h4 (Ck Y h)
theorem JW {n:Nat}{x:bG}(M:ze n x=Eg):∀ {H:qi} {i:Nat},H[i]?=Eb x->qr n H=Eg
 | [],i,h=>by simp at h
 |y::H,0,h=>by
  simp only[List.getElem?_cons_zero,Eb.injEq]at h;simp only[qr,h,M,Bool.false_and]
 |y::H,i+1,h=>by
  simp only[List.getElem?_cons_succ]at h;simp only[qr,JW M h,H3]
theorem q9f {n:Nat}{v:AVal}{x:bG}{h t:qi}{i:Nat}(hn:h.length=n)(hi:h[i]?=Eb x)(M:ze n x=Eg):qp n v (h++t)=h++t:=by
 unfold qp
 have ht:(h++t).take n=h:=by rw[<-hn,List.take_left'];rfl
 rw[ht,JW M hi,H3];cases Nat.ble (h++t).length n<;>rfl
end
abbrev kP (c:Nat):bG:=.cells [(Nl,Eg),(Nl,Eg),(.az c 0 1,Eg)]
abbrev rC (H:qi)(p c:Nat):qi:=dU H p c (kP c) (.vec 4 0 [aZ])
abbrev rD (H:qi)(p c:Nat)(v:HV):qi:=dU H p c (kV v (H.length+2) H.length c) (.vec 4 v.vs (v.ss.map ju))++[.vec 5 v.vc (v.cs.map vev),.hole,.vec 5 v.ve (v.ev.map vev)]
theorem jh2 {H:qi}{p c:Nat}(D:D2 H p c)(hB:qr H.length H=E3){e:GEv}{q}(h:wE e=Eb q):∃hh,ai pr (X pr) 25 [.ptr p 0,aE e] (rC H p c)=Eb (Iv q.1,Eg,hh)/\qp H.length (Iv q.1) hh=(match q.2 with
  |none=>rC H p c
  |some v=>rD H p c v):=by
 have eh:p<H.length+1:=G5 D.lp;have en:p<H.length+2:=G5 eh;have pU:p<H.length+3:=G5 en;unfold wE at h;rcases qe h with⟨Y,h⟩|⟨Y,h⟩
 .rcases qe h with⟨I,h⟩|⟨I,h⟩
  .obtain⟨e1,k1,h⟩:=qd h;obtain⟨e2,k3,h⟩:=qd h;obtain⟨e3,k4,h⟩:=qd h;have w1:=dp k1;have w2:=dp k3;have w3:ae pr (X pr) 17 [.list Eg 1 [Iv e1,Iv e2]]=Eb (Iv e3,Eg):=fC k4;rcases qe h with⟨h4,h⟩|⟨h4,h⟩
   .cases h
   .cases h;refine⟨rC H p c,?_,jw pV⟩;rw[qh (show pr.bn 25=Eb eu from rfl) (by simp)];simp only[go_sem,seval,eu,Y,I,w1,w2,w3,h4,JX,jvs,Oe,JU D,Ob D,JT D,Oa D,bc2,Oc,Cl,JV,Ga,Od,kz,ky,E4,En,Ep,D.lp,eh,en,pU]<;>rfl
  .obtain⟨v,k2,h⟩:=qd h;have w1:=N6 (H:=rC H p c) (x0:=(Nl,Eg)) (x1:=(Nl,Eg)) (vs:=0) (ls:=1) (ss:=[dl]) (r:=dl) (JU D) (jmh D) rfl;have wa:qp H.length (aR dl) (rC H p c++[kR dl.day dl.ay dl.ah dl.units])=rC H p c:=pj pV rfl (jgm hB (by simp only[ze,zn,qP,D.lc,decide_true,H4];rfl) rfl);have w2:ae pr (X pr) 95 [aR dl,aE e]=Eb (.bq [aR v.1,Iv v.2],Eg):=N9 k2;rcases qe h with⟨h3,h⟩|⟨h3,h⟩
   .cases h
    have g1:kD H.length 0 5 88 (rC H p c++[.hole,.hole]) (Eb (Nl)) (Eb (.list Eg 5 [aE e]))=Eb ⟨.az H.length 0 1,Eg,G1,rC H p c++[.vec 5 0 [aE e],.hole]⟩:=by
     exact M5 (by simp) (by decide) (by decide) (by simp) (by simp only[go_sem,seval]) (by decide) (nb2 (k:=0) (r:=0) rfl)
    have g2:kD H.length 1 4 80 (rC H p c++[.vec 5 0 [aE e],.hole]) (Eb (.az c 0 1)) (Eb (.list Eg 4 [aR v.1]))=Eb ⟨.az c 1 2,Eg,G1,dU H p c (kP c) (.vec 4 1 [aZ,aR v.1])++[.vec 5 0 [aE e],.hole]⟩:=(vj (f:=ju) (l:=[dl]) (l':=[dl,v.1]) (x:=v.1) rfl (jfr D _) (by simp only[go_sem,seval]) (by decide) (by decide) (by decide)).trans (by rw[jsh D];rfl)
    have g3:kD (H.length+2) 0 5 88 (dU H p c (.cells [(Nl,Eg),(.az H.length 0 1,Eg),(.az c 1 2,Eg)]) (.vec 4 1 [aZ,aR v.1])++[.vec 5 0 [aE e],.hole,.hole]) (Eb (Nl)) (Eb (.list Eg 5 [aE e]))=Eb ⟨.az (H.length+2) 0 1,Eg,G1,dU H p c (.cells [(Nl,Eg),(.az H.length 0 1,Eg),(.az c 1 2,Eg)]) (.vec 4 1 [aZ,aR v.1])++[.vec 5 0 [aE e],.hole,.vec 5 0 [aE e]]⟩:=by
     exact M5 (by simp) (by decide) (by decide) (by simp) (by simp only[go_sem,seval]) (by decide) (nb2 (k:=2) (r:=0) rfl)
    refine⟨rD H p c { ev:=[e],ve:=0,cs:=[e],lc:=1,vc:=0,ss:=[dl,v.1],ls:=2,vs:=1 },?_,?_⟩
    .rw[qh (show pr.bn 25=Eb eu from rfl) (by simp)];simp only[go_sem,seval,eu,Y,I,w1,wa,w2,h3,g1,g2,g3,JX,JU D,Ob D,JT D,Oa D,bc2,Oc,Cl,JV,Ga,Od,kz,ky,E4,En,Ep,D.lp,eh,en,pU]<;>rfl
    .exact q9f pV (VK D) (by simp[ze,zn,qP])
   .cases h;refine⟨rC H p c,?_,jw pV⟩;rw[qh (show pr.bn 25=Eb eu from rfl) (by simp)];simp only[go_sem,seval,eu,Y,I,w1,wa,w2,h3,JX,JU D,Ob D,JT D,Oa D,bc2,Oc,Cl,JV,Ga,Od,kz,ky,E4,En,Ep,D.lp,eh,en,pU]<;>rfl
 .cases h;refine⟨rC H p c,?_,jw pV⟩;rw[qh (show pr.bn 25=Eb eu from rfl) (by simp)];simp only[go_sem,seval,eu,Y,JU D,Ob D,JT D,Oa D,bc2,Oc,Cl,JV,Ga,Od,kz,ky,E4,En,Ep,D.lp,eh,en,pU]<;>rfl
end Go.Z
namespace Go.Z
open Go Go.Abs Go.W
theorem j0z {H:qi}{e e':GEv}(h:f35 e=Eb e'):∃L,ai pr (X pr) 35 [aE e] H=Eb (aE e',Eg,H++L):=by
 unfold f35 at h;obtain⟨v1,Y,h⟩:=qd h;obtain⟨v3,h3,h⟩:=qd h;have w1:=Vk Y;have w3:=jse h3;obtain⟨v1,o1⟩:=v1;obtain⟨v3,o3⟩:=v3
 cases o1<;>cases o3<;>cases h<;>rw[qh (show pr.bn 35=Eb JY from rfl) (by simp)] <;>
  (simp only[go_sem,seval,JY,w1,w3,ph,rB,yc,lQ,ke,lR,kz,ky,E4,En,Ep];exact⟨_,rfl⟩)
@[go_sem] theorem j23 {n h b o}:IK 1 n h (Eb (.ptr b o))=Eb ⟨.bool n,Eg,G1,h⟩:=by cases n<;>rfl
def Gb (l:List GEv)(V:(ak GEv)×Int×Bool):Option (((ak GEv)×Int×Bool)⊕(((ak GEv)×Bool×Int))):=
 cond (decide (V.2.1<(l.length:Int)))
  (qc (qo l V.2.1) fun dm=>
  qc (f35 dm) fun dS=>
  cond V.2.2
   (qc (bB V.1 [dS]) fun fS=>
   Eb (.inl (fS,qf .i64 (V.2.1+1),E3)))
   (cond V.1.isNone
    (qc (bB V.1 [dS]) fun v20=>
    Eb (.inl (v20,qf .i64 (V.2.1+1),E3)))
    (G1)))
  (Eb (.inr (V.1,V.2.2,V.2.1)))
section
variable {H:qi}{a v:Nat}{l:List GEv}
def Gc (H:qi)(a v:Nat)(l:List GEv)(V:(ak GEv)×Int×Bool):bj:=⟨[(1,.fn (.func 35) [] [],Eg),(5,sl 5 vev V.1,V.2.2),(8,.az a v l.length,Eg),(9,.int .i64 (l.length:Int),Eg),(10,Iv V.2.1,Eg)],H⟩
def Og (H:qi)(a v:Nat)(l:List GEv)(d:((ak GEv)×Bool×Int)):jc×bj:=(.exit 0,⟨[(1,.fn (.func 35) [] [],Eg),(5,sl 5 vev d.1,d.2.1),(8,.az a v l.length,Eg),(9,.int .i64 (l.length:Int),Eg),(10,Iv d.2.2,Eg),(11,.bool Eg,Eg)],H⟩)
theorem ja7 (ha:H[a]?=Eb (.vec 5 v (l.map vev))){i:Int}{x:GEv}(M:qo l i=Eb x):
  (∀h:qi,iR 5 h (Eb (.az a v l.length)) (Eb (Iv i))=Eb ⟨.dN a v (i.toNat*5),Eg,G1,h⟩)/\kh H.length G1 E3 5 H (Eb (.dN a v (i.toNat*5)))=Eb ⟨aE x,Eg,G1,H⟩:=by
 have fp:qo (l.take l.length) i=Eb x:=by rw[List.take_length];exact M
 exact⟨fun h=>(pi fp).1,M4 VJ ha rfl (pi (sz:=5) (b:=0) (v:=0) (h:=[]) fp).2⟩
theorem jyi (ha:H[a]?=Eb (.vec 5 v (l.map vev)))(hB:qr H.length H=E3)(V:(ak GEv)×Int×Bool)(r)(h:Gb l V=Eb r):js pr zK (Gc H a v l) (Og H a v l) V r:=by
 unfold Gb at h;rcases qe h with⟨Y,h⟩|⟨Y,h⟩
 .obtain⟨x,I,h⟩:=qd h;obtain⟨y,h3,h⟩:=qd h;obtain⟨g1,g2⟩:=ja7 ha I;obtain⟨L,g3⟩:=j0z (H:=H) h3;have g4:qp H.length (aE y) (H++L)=H:=pj rfl (by simp only[go_sem,seval]) hB;rcases qe h with⟨h4,h⟩|⟨h4,h⟩
  .obtain⟨z,h5,h⟩:=qd h;cases h;exact z7 (bN:=Gc H a v l (z,qf .i64 (V.2.1+1),E3)) (by simp only[go_sem,seval,zK,Gc,Y,g1,g2,g3,g4,h4,TW h5]<;>rfl) (yv (Hr _))
  .rcases qe h with⟨h5,h⟩|⟨h5,h⟩
   .obtain⟨z,h6,h⟩:=qd h;cases h;exact z7 (bN:=Gc H a v l (z,qf .i64 (V.2.1+1),E3)) (by simp only[go_sem,seval,zK,Gc,Y,g1,g2,g3,g4,h4,h5,TX h6 h5]<;>rfl) (yv (Hr _))
   .cases h
 .cases h;exact qw (by simp only[go_sem,seval,zK,Gc,Y,Og]<;>rfl)
def Gd (l:List GEv):Option ((ak GEv)×Bool):=
 qc (bu (Gb l) (G1,0,Eg)) fun d=>
 Eb (d.1,d.2.1)
theorem j5r (ha:H[a]?=Eb (.vec 5 v (l.map vev)))(hB:qr H.length H=E3){r}(h:Gd l=Eb r):ai pr (X pr) 34 [.az a v l.length,.fn (.func 35) [] []] H=Eb (sl 5 vev r.1,r.2,H):=by
 unfold Gd at h;obtain⟨d,Y,h⟩:=qd h;cases h;have wl:X pr (.loop zK) ⟨[(1,.fn (.func 35) [] [],Eg),(5,.list E3 0 [],Eg),(8,.az a v l.length,Eg),(9,.int .i64 (l.length:Int),Eg),(10,Iv 0,Eg)],H⟩=Eb (Og H a v l d):=nC (jyi ha hB) (fun d hh=>by cases hh) Y;simp only[Og]at wl;rw[qh (show pr.bn 34=Eb JZ from rfl) (by simp)];simp only[go_sem,seval,JZ,wl]<;>rfl
theorem ji6 {p:Nat}{x1 x2:AVal×Bool}(hp:qy H p=Eb [(.az a v l.length,Eg),x1,x2])(ha:H[a]?=Eb (.vec 5 v (l.map vev)))(hB:qr H.length H=E3){r}(h:Gd l=Eb r):ai pr (X pr) 12 [.ptr p 0] H=Eb (sl 5 vev r.1,r.2,H):=by
 have bh:=vi hp;have w:=j5r ha hB h;have wa:qp H.length (sl 5 vev r.1) H=H:=jw rfl;rw[qh (show pr.bn 12=Eb J0 from rfl) (by simp)];simp only[go_sem,seval,J0,hp,bh,w,wa,Eh]<;>rfl
end
end Go.Z
namespace Go.Z
open Go Go.Abs Go.W
theorem jkd {H:qi}{O:GEv}{r}(h:f31 O=Eb r):ai aB (X aB) 31 [aE O] H=Eb (.str r,Eg,H):=by
 unfold f31 at h;obtain⟨v1,I,h⟩:=qd h;have iY:ae aB (X aB) 101 [.agg [.int .i64 O.number,.str O.kind,sl 1 jf O.names,sl 1 zg O.values,.str O.text]]=Eb (.str v1,Eg):=j6g I;obtain⟨v3,h4,h⟩:=qd h;obtain⟨v5,h6,h⟩:=qd h;have B0:ae aB (X aB) 102 [.str v1]=Eb (.str v5,Eg):=jr3 h6;obtain⟨v7,h8,h⟩:=qd h;obtain⟨v9,ep,h⟩:=qd h;have Q:v9=r:=Eb.inj h;subst Q;rw[qh (show aB.bn 31=Eb VL from rfl) (by simp)];simp only[go_sem,seval,VL,iY,rh h4,B0,rh h8,rh ep,Eh]<;>rfl
def Ge (l:List GEv)(V:(ak aj)×Int×Bool):Option (((ak aj)×Int×Bool)⊕(((ak aj)×Bool×Int))):=
 cond (decide (V.2.1<(l.length:Int)))
  (qc (qo l V.2.1) fun dm=>
  qc (f31 dm) fun dS=>
  cond V.2.2
   (qc (bB V.1 [dS]) fun fS=>
   Eb (.inl (fS,qf .i64 (V.2.1+1),E3)))
   (cond V.1.isNone
    (qc (bB V.1 [dS]) fun v20=>
    Eb (.inl (v20,qf .i64 (V.2.1+1),E3)))
    (G1)))
  (Eb (.inr (V.1,V.2.2,V.2.1)))
section
variable {H:qi}{a v:Nat}{l:List GEv}
def Gf (H:qi)(a v:Nat)(l:List GEv)(V:(ak aj)×Int×Bool):bj:=⟨[(1,.fn (.func 31) [] [],Eg),(5,sl 1 jf V.1,V.2.2),(8,.az a v l.length,Eg),(9,.int .i64 (l.length:Int),Eg),(10,Iv V.2.1,Eg)],H⟩
def Oh (H:qi)(a v:Nat)(l:List GEv)(d:((ak aj)×Bool×Int)):jc×bj:=(.exit 0,⟨[(1,.fn (.func 31) [] [],Eg),(5,sl 1 jf d.1,d.2.1),(8,.az a v l.length,Eg),(9,.int .i64 (l.length:Int),Eg),(10,Iv d.2.2,Eg),(11,.bool Eg,Eg)],H⟩)
theorem jxo (ha:H[a]?=Eb (.vec 5 v (l.map vev)))(V:(ak aj)×Int×Bool)(r)(h:Ge l V=Eb r):js aB zL (Gf H a v l) (Oh H a v l) V r:=by
 unfold Ge at h;rcases qe h with⟨Y,h⟩|⟨Y,h⟩
 .obtain⟨x,I,h⟩:=qd h;obtain⟨y,h3,h⟩:=qd h;obtain⟨g1,g2⟩:=ja7 ha I;have g3:=jkd (H:=H) h3;have g4:qp H.length (.str y) H=H:=jw rfl;rcases qe h with⟨h4,h⟩|⟨h4,h⟩
  .obtain⟨z,h5,h⟩:=qd h;cases h;exact z7 (bN:=Gf H a v l (z,qf .i64 (V.2.1+1),E3)) (by simp only[go_sem,seval,zL,Gf,Y,g1,g2,g3,g4,h4,T2 h5]<;>rfl) (yv (Hr _))
  .rcases qe h with⟨h5,h⟩|⟨h5,h⟩
   .obtain⟨z,h6,h⟩:=qd h;cases h;exact z7 (bN:=Gf H a v l (z,qf .i64 (V.2.1+1),E3)) (by simp only[go_sem,seval,zL,Gf,Y,g1,g2,g3,g4,h4,h5,qzw h6 h5]<;>rfl) (yv (Hr _))
   .cases h
 .cases h;exact qw (by simp only[go_sem,seval,zL,Gf,Y,Oh]<;>rfl)
def Oi (l:List GEv):Option ((ak aj)×Bool):=
 qc (bu (Ge l) (G1,0,Eg)) fun d=>
 Eb (d.1,d.2.1)
theorem zal (ha:H[a]?=Eb (.vec 5 v (l.map vev))){r}(h:Oi l=Eb r):ai aB (X aB) 30 [.az a v l.length,.fn (.func 31) [] []] H=Eb (sl 1 jf r.1,r.2,H):=by
 unfold Oi at h;obtain⟨d,Y,h⟩:=qd h;cases h;have wl:X aB (.loop zL) ⟨[(1,.fn (.func 31) [] [],Eg),(5,.list E3 0 [],Eg),(8,.az a v l.length,Eg),(9,.int .i64 (l.length:Int),Eg),(10,Iv 0,Eg)],H⟩=Eb (Oh H a v l d):=nC (jxo ha) (fun d hh=>by cases hh) Y;simp only[Oh]at wl;rw[qh (show aB.bn 30=Eb J1 from rfl) (by simp)];simp only[go_sem,seval,J1,wl]<;>rfl
def f10 (l:List GEv):Option aj:=qc (Oi l) fun r=>f29 r.1 []
theorem j03 {p:Nat}{x1 x2:AVal×Bool}(hp:qy H p=Eb [(.az a v l.length,Eg),x1,x2])(ha:H[a]?=Eb (.vec 5 v (l.map vev))){r}(h:f10 l=Eb r):ai aB (X aB) 10 [.ptr p 0] H=Eb (.str r,Eg,H):=by
 have bh:=vi hp;unfold f10 at h;obtain⟨q,Y,h⟩:=qd h;have w:=zal ha Y;have wa:qp H.length (sl 1 jf q.1) H=H:=jw rfl;have wj:=FU h;rw[qh (show aB.bn 10=Eb J2 from rfl) (by simp)];simp only[go_sem,seval,J2,hp,bh,w,wa,wj,Eh]<;>rfl
theorem jzw {p:Nat}{x1 x2:AVal×Bool}(hp:qy H p=Eb [(Nl,Eg),x1,x2]):ai aB (X aB) 10 [.ptr p 0] H=Eb (.str [],Eg,H):=by
 have bh:=vi hp
 have w:ai aB (X aB) 30 [Nl,.fn (.func 31) [] []] H=Eb (Nl,Eg,H):=by
  have wl:X aB (.loop zL) ⟨[(1,.fn (.func 31) [] [],Eg),(5,.list E3 0 [],Eg),(8,Nl,Eg),(9,.int .i64 0,Eg),(10,Iv 0,Eg)],H⟩=Eb (.exit 0,⟨[(1,.fn (.func 31) [] [],Eg),(5,.list E3 0 [],Eg),(8,Nl,Eg),(9,.int .i64 0,Eg),(10,Iv 0,Eg),(11,.bool Eg,Eg)],H⟩):=by
   rw[S7];simp only[go_sem,seval,zL,Oe]<;>rfl
  rw[qh (show aB.bn 30=Eb J1 from rfl) (by simp)];simp only[go_sem,seval,J1,wl]<;>rfl
 have wa:qp H.length Nl H=H:=jw rfl;have wj:ae aB (X aB) 29 [Nl,.str []]=Eb (.str [],Eg):=FU (l:=none) (p:=[]) rfl;rw[qh (show aB.bn 10=Eb J2 from rfl) (by simp)];simp only[go_sem,seval,J2,hp,bh,w,wa,wj,Eh]<;>rfl
theorem jib {p:Nat}{x1 x2:AVal×Bool}(hp:qy H p=Eb [(Nl,Eg),x1,x2]):ai pr (X pr) 12 [.ptr p 0] H=Eb (Nl,Eg,H):=by
 have bh:=vi hp
 have w:ai pr (X pr) 34 [Nl,.fn (.func 35) [] []] H=Eb (Nl,Eg,H):=by
  have wl:X pr (.loop zK) ⟨[(1,.fn (.func 35) [] [],Eg),(5,.list E3 0 [],Eg),(8,Nl,Eg),(9,.int .i64 0,Eg),(10,Iv 0,Eg)],H⟩=Eb (.exit 0,⟨[(1,.fn (.func 35) [] [],Eg),(5,.list E3 0 [],Eg),(8,Nl,Eg),(9,.int .i64 0,Eg),(10,Iv 0,Eg),(11,.bool Eg,Eg)],H⟩):=by
   rw[S7];simp only[go_sem,seval,zK,Oe]<;>rfl
  rw[qh (show pr.bn 34=Eb JZ from rfl) (by simp)];simp only[go_sem,seval,JZ,wl]<;>rfl
 have wa:qp H.length Nl H=H:=jw rfl;rw[qh (show pr.bn 12=Eb J0 from rfl) (by simp)];simp only[go_sem,seval,J0,hp,bh,w,wa,Eh]<;>rfl
end
end Go.Z
namespace Go.Z
open Go Go.Abs Go.W
section
variable {H:qi}{r:av}{n:aj}
def f48 (r:av)(n:aj):Option (ak aj×Bool):=qc (f49 r n) fun i=>qc (qo (r.units.getD []) i) fun u=>f50 u
def f51 (r:av)(n:aj):Option (ak aj×Bool):=f52 r n
def f53 (r:av)(n:aj):Option (ak aj×Bool):=qc (f49 r n) fun i=>qc (qo (r.units.getD []) i) fun u=>f54 r u
def f55 (r:av)(n:aj):Option (ak aj×Bool):=qc (f56 r n) fun k=>qc (f26 k) fun s=>Eb (Eb [s],E3)
def f57 (r:av)(n:aj):Option (ak aj×Bool):=qc (f58 r n) fun i=>qc (qo (r.ah.getD []) i) fun p=>qc (f59 p) fun v=>qc (f26 v) fun s=>Eb (Eb [s],E3)
def f60 (r:av)(n:aj):Option (ak aj×Bool):=qc (JP r.units) fun v=>f61 v.1
def f65 (r:av)(n:aj):Option (ak aj×Bool):=qc (f67 r.ay) fun v=>f129 v.1
theorem j86 {q}(h:f48 r n=Eb q):ai aB (X aB) 48 [aR r,.str n] H=Eb (sl 1 jf q.1,q.2,H):=by
 unfold f48 at h;obtain⟨i,Y,h⟩:=qd h;obtain⟨u,I,h⟩:=qd h;have w1:=aF.ae (tn Y);have w2:=aF.ae (W50 h);rw[qh (show aB.bn 48=Eb VM from rfl) (by simp)];simp only[go_sem,seval,VM,w1,jg I,w2,Eh]<;>rfl
theorem j7h {q}(h:f51 r n=Eb q):ai aB (X aB) 51 [aR r,.str n] H=Eb (sl 1 jf q.1,q.2,H):=by
 have w1:=aF.ae (W52 h);rw[qh (show aB.bn 51=Eb VN from rfl) (by simp)];simp only[go_sem,seval,VN,w1,Eh]<;>rfl
theorem j6i {q}(h:f53 r n=Eb q):ai aB (X aB) 53 [aR r,.str n] H=Eb (sl 1 jf q.1,q.2,H):=by
 unfold f53 at h;obtain⟨i,Y,h⟩:=qd h;obtain⟨u,I,h⟩:=qd h;have w1:=aF.ae (tn Y);have w2:=aF.ae (W54 h);rw[qh (show aB.bn 53=Eb VO from rfl) (by simp)];simp only[go_sem,seval,VO,w1,jg I,w2,Eh]<;>rfl
theorem j9o {q}(h:f55 r n=Eb q):ai aB (X aB) 55 [aR r,.str n] H=Eb (sl 1 jf q.1,q.2,H):=by
 unfold f55 at h;obtain⟨k,Y,h⟩:=qd h;obtain⟨s,I,h⟩:=qd h;cases h;have w1:=aF.ae (W56 Y);have w2:=JH I;rw[qh (show aB.bn 55=Eb VP from rfl) (by simp)];simp only[go_sem,seval,VP,w1,w2,Eh]<;>rfl
theorem j8m {q}(h:f57 r n=Eb q):ai aB (X aB) 57 [aR r,.str n] H=Eb (sl 1 jf q.1,q.2,H):=by
 unfold f57 at h;obtain⟨i,Y,h⟩:=qd h;obtain⟨p,I,h⟩:=qd h;obtain⟨v,h3,h⟩:=qd h;obtain⟨s,h4,h⟩:=qd h;cases h;have w1:=aF.ae (rE Y);have w2:=aF.ae (VQ h3);have w3:=JH h4;rw[qh (show aB.bn 57=Eb VR from rfl) (by simp)];simp only[go_sem,seval,VR,w1,jg I,w2,w3,Eh]<;>rfl
theorem j9k {q}(h:f60 r n=Eb q):ai aB (X aB) 60 [aR r,.str n] H=Eb (sl 1 jf q.1,q.2,H):=by
 unfold f60 at h;obtain⟨v,Y,h⟩:=qd h;have w1:=aF.ae (zaf Y);have w2:=aF.ae (W61 h);rw[qh (show aB.bn 60=Eb VS from rfl) (by simp)];simp only[go_sem,seval,VS,w1,w2,Eh]<;>rfl
theorem W66 {o:ak ji}{q}(h:f129 o=Eb q):ae pr (X pr) 66 [sl 5 jd o]=Eb (sl 1 jf q.1,q.2):=by
 have w1:=j54 h;refine yf VT ?_;simp only[go_sem,seval,VT,w1];exact⟨_,rfl⟩
theorem zaj {q}(h:f65 r n=Eb q):ai aB (X aB) 65 [aR r,.str n] H=Eb (sl 1 jf q.1,q.2,H):=by
 unfold f65 at h;obtain⟨v,Y,h⟩:=qd h;have w1:=aF.ae (W67 Y);have w2:=aF.ae (W66 h);rw[qh (show aB.bn 65=Eb VU from rfl) (by simp)];simp only[go_sem,seval,VU,w1,w2,Eh]<;>rfl
theorem jtw {k:Int}{q}(h:f70 r k n=Eb q):ai aB (X aB) 70 [aR r,.int .i32 k,.str n] H=Eb (.bool q,Eg,H):=by
 unfold f70 at h;rcases qe h with⟨g1,h⟩|⟨g1,h⟩
 .obtain⟨v,Y,h⟩:=qd h;have w1:=aF.ae (Cm Y);cases h;rw[qh (show aB.bn 70=Eb tq from rfl) (by simp)];simp only[go_sem,seval,tq,g1,w1,Eh]<;>rfl
 .rcases qe h with⟨g2,h⟩|⟨g2,h⟩
  .obtain⟨v,Y,h⟩:=qd h;have w1:=aF.ae (rE Y);cases h;rw[qh (show aB.bn 70=Eb tq from rfl) (by simp)];simp only[go_sem,seval,tq,g1,g2,w1,Eh]<;>rfl
  .rcases qe h with⟨g3,h⟩|⟨g3,h⟩
   .obtain⟨v,Y,h⟩:=qd h;have w1:=aF.ae (tn Y);cases h;rw[qh (show aB.bn 70=Eb tq from rfl) (by simp)];simp only[go_sem,seval,tq,g1,g2,g3,w1,Eh]<;>rfl
   .cases h;rw[qh (show aB.bn 70=Eb tq from rfl) (by simp)];simp only[go_sem,seval,tq,g1,g2,g3,Eh]<;>rfl
end
end Go.Z
namespace Go.Z
open Go Go.Abs Go.W
def fk:List (aj×Int×Nat):=[([108,111,116,115],117,48),([117,110,105,116,115],108,51),([109,105,115,115,105,110,103],117,53),([115,116,111,99,107],107,55),([118,101,114,115,105,111,110],112,57),([115,104,105,112,112,101,100],0,60),([104,101,108,100],0,65)]
def lA (x:aj):Option (aj×Int×Nat):=fk.find? fun f=>decide (x=f.1)
def J3 (x:aj):Int:=match lA x with
 |some f=>f.2.1|none=>0
def Cn (x:aj):AVal:=match lA x with
 |some f=>fnv f.2.2|none=>.cO
def Co (x:aj):Bool:=(lA x).isSome
theorem jhg:Gg=fk.map fun f=>(.str f.1,.agg [.int .i32 f.2.1,fnv f.2.2]):=rfl
theorem q2z (x:aj):∀(l:List (aj×Int×Nat)) (n:Nat),(jz .str (.str x) (l.map fun f=>(.str f.1,.agg [.int .i32 f.2.1,fnv f.2.2])) n=Eb G1/\l.find? (fun f=>decide (x=f.1))=G1)\/∃i f,jz .str (.str x) (l.map fun f=>(.str f.1,.agg [.int .i32 f.2.1,fnv f.2.2])) n=Eb (Eb (i,.agg [.int .i32 f.2.1,fnv f.2.2]))/\l.find? (fun f=>decide (x=f.1))=Eb f
 | [],n=>.inl ⟨rfl,rfl⟩
 |f::l,n=>by
  have he:lT .str (.str x) (.str f.1)=Eb (decide (x=f.1)):=by
   show Eb (x == f.1)=_;by_cases M:x=f.1<;>simp[M]
  by_cases M:x=f.1
  .refine .inr ⟨n,f,?_,?_⟩
   .simp only[Hu,jz,he,decide_eq_true M]
   .simp[H0,M]
  .rcases q2z x l (n+1)with⟨Y,I⟩|⟨i,g,Y,I⟩
   .exact .inl ⟨by simp only[Hu,jz,he,M,decide_false];exact Y,by simp only[H0,M,decide_false];exact I⟩
   .exact .inr ⟨i,g,by simp only[Hu,jz,he,M,decide_false];exact Y,by simp only[H0,M,decide_false];exact I⟩
@[go_sem] theorem zcu:aB.maps 20=Eb Gg:=rfl
theorem Gh {h:qi}(x:aj):sM h (.agg [.int .i32 0,.cO]) (jz .str (.str x) Gg 0)=Eb ⟨.bq [.agg [.int .i32 (J3 x),Cn x],.bool (Co x)],Eg,G1,h⟩:=by
 rw[jhg];rcases q2z x fk 0 with⟨Y,I⟩|⟨i,f,Y,I⟩
 .rw[Y];simp only[sM,J3,Cn,Co,lA,I];rfl
 .rw[Y];simp only[sM,J3,Cn,Co,lA,I];rfl
@[go_sem] theorem zcv {x}:qm (Cn x)=E3:=by
 unfold Cn;split
 .rename_i f _;simp only[fnv];cases Nat.beq f.2.2 0<;>rfl
 .rfl
abbrev Ans:=av->aj->Option (ak aj×Bool)
def zM (k:Nat):Ans:=match k with
 |48=>f48|51=>f51|53=>f53|55=>f55|57=>f57|60=>f60|65=>f65
 |_=>fun _ _=>G1
theorem VW {k:Nat}{H:qi}{r:av}{n:aj}{q}(h:zM k r n=Eb q):ai aB (X aB) k [aR r,.str n] H=Eb (sl 1 jf q.1,q.2,H):=by
 unfold zM at h;split at h
 .exact j86 h
 .exact j7h h
 .exact j6i h
 .exact j9o h
 .exact j8m h
 .exact j9k h
 .exact zaj h
 .cases h
def Cp (r:av)(role:Int)(k:Nat)(o:ak aj):Option (aj×Int):=
 cond (decide (((o.getD []).length:Int)=(if role=0 then 1 else 2)))
  (qc (f69 o []) fun e=>
  cond e (Eb ([],26))
   (qc (qo (o.getD []) (qf .i64 (if role=0 then 0 else 1))) fun name=>
   qc (f70 r role name) fun kn=>
   qc (f18 (!kn) 10) fun e1=>
   qc (cond (decide (role=107)) (qc (f71 name) fun i=>Eb (!i)) (Eb Eg)) fun b2=>
   qc (f18 b2 8) fun e2=>
   qc (f17 (Eb [e1,e2])) fun e3=>
   cond (decide (e3=0))
    (qc (zM k r name) fun q=>
    qc (f29 q.1 [32]) fun s=>
    Eb (cond (decide (s=[])) [110,111,110,101] s,0))
    (Eb ([],e3))))
  (Eb ([],26))
theorem jzy {H L:qi}{p k:Nat}{role:Int}{o:ak aj}{r:av}(hn:ai aB (X aB) 36 [.ptr p 0] H=Eb (aR r,Eg,H++L))(hB:qr H.length H=E3){q}(h:Cp r role k o=Eb q):
  ai aB (X aB) 21 [.ptr p 0,.agg [.int .i32 role,.fn (.func k) [] []],sl 1 jf o] H=Eb (.bq [.str q.1,Iv q.2],Eg,H):=by
 have wa:qp H.length (aR r) (H++L)=H:=pj rfl (by simp only[go_sem,seval]) hB;unfold Cp at h;by_cases Q:role=0
 .have iH:decide (role=0)=E3:=decide_eq_true Q;have hk:decide (role=107)=Eg:=decide_eq_false (by omega);simp only[if_pos Q]at h;rcases qe h with⟨Y,h⟩|⟨Y,h⟩
  .obtain⟨e,I,h⟩:=qd h;have w2:=aF.ae (NR I);rcases qe h with⟨h3,h⟩|⟨h3,h⟩
   .cases h;rw[h3]at w2;rw[qh (show aB.bn 21=Eb gW from rfl) (by simp)];simp only[go_sem,seval,gW,iH,Y,w2,Eh]<;>rfl
   .rw[h3]at w2;obtain⟨name,h4,h⟩:=qd h;obtain⟨kn,h5,h⟩:=qd h;obtain⟨e1,h6,h⟩:=qd h;rw[hk,cond_false,qk]at h;obtain⟨e2,h8,h⟩:=qd h;obtain⟨e3,h9,h⟩:=qd h;have w5:=jtw (H:=H) h5;have vk:qp H.length (.bool kn) H=H:=jw rfl;have w6:=aF.ae (dp h6);have w8:=aF.ae (dp h8);have w9:ae aB (X aB) 17 [.list Eg 1 [Iv e1,Iv e2]]=Eb (Iv e3,Eg):=aF.ae (fC h9);rcases qe h with⟨ep,h⟩|⟨ep,h⟩
    .obtain⟨a,gA,h⟩:=qd h;obtain⟨s,jL,h⟩:=qd h;have nD:=VW (H:=H) gA;have mQ:qp H.length (sl 1 jf a.1) H=H:=jw rfl;have ou:=FU jL;cases h;cases ib:decide (s=[])
     .rw[qh (show aB.bn 21=Eb gW from rfl) (by simp)];simp only[go_sem,seval,gW,iH,Y,w2,hn,wa,jg h4,w5,vk,w6,hk,w8,w9,ep,nD,mQ,ou,ib,Eh]<;>rfl
     .rw[qh (show aB.bn 21=Eb gW from rfl) (by simp)];simp only[go_sem,seval,gW,iH,Y,w2,hn,wa,jg h4,w5,vk,w6,hk,w8,w9,ep,nD,mQ,ou,ib,Eh]<;>rfl
    .cases h;rw[qh (show aB.bn 21=Eb gW from rfl) (by simp)];simp only[go_sem,seval,gW,iH,Y,w2,hn,wa,jg h4,w5,vk,w6,hk,w8,w9,ep,Eh]<;>rfl
  .cases h;rw[qh (show aB.bn 21=Eb gW from rfl) (by simp)];simp only[go_sem,seval,gW,iH,Y,Eh]<;>rfl
 .have iH:decide (role=0)=Eg:=decide_eq_false Q;simp only[if_neg Q]at h;rcases qe h with⟨Y,h⟩|⟨Y,h⟩
  .obtain⟨e,I,h⟩:=qd h;have w2:=aF.ae (NR I);rcases qe h with⟨h3,h⟩|⟨h3,h⟩
   .cases h;rw[h3]at w2;rw[qh (show aB.bn 21=Eb gW from rfl) (by simp)];simp only[go_sem,seval,gW,iH,Y,w2,Eh]<;>rfl
   .rw[h3]at w2;obtain⟨name,h4,h⟩:=qd h;obtain⟨kn,h5,h⟩:=qd h;obtain⟨e1,h6,h⟩:=qd h;have w5:=jtw (H:=H) h5;have vk:qp H.length (.bool kn) H=H:=jw rfl;have w6:=aF.ae (dp h6)
    cases hk:decide (role=107)with
    |true=>
     rw[hk]at h;obtain⟨b2,h7,h⟩:=qd h;obtain⟨i,h71,h7⟩:=qd h7;obtain⟨e2,h8,h⟩:=qd h;obtain⟨e3,h9,h⟩:=qd h;have hb:=Eb.inj h7;rw[<-hb]at h8;have w7:=aF.ae (W71 h71);have w8:=aF.ae (dp h8);have w9:ae aB (X aB) 17 [.list Eg 1 [Iv e1,Iv e2]]=Eb (Iv e3,Eg):=aF.ae (fC h9);rcases qe h with⟨ep,h⟩|⟨ep,h⟩
     .obtain⟨a,gA,h⟩:=qd h;obtain⟨s,jL,h⟩:=qd h;have nD:=VW (H:=H) gA;have mQ:qp H.length (sl 1 jf a.1) H=H:=jw rfl;have ou:=FU jL;cases h;cases ib:decide (s=[])
      .rw[qh (show aB.bn 21=Eb gW from rfl) (by simp)];simp only[go_sem,seval,gW,iH,Y,w2,hn,wa,jg h4,w5,vk,w6,hk,w7,w8,w9,ep,nD,mQ,ou,ib,Eh]<;>rfl
      .rw[qh (show aB.bn 21=Eb gW from rfl) (by simp)];simp only[go_sem,seval,gW,iH,Y,w2,hn,wa,jg h4,w5,vk,w6,hk,w7,w8,w9,ep,nD,mQ,ou,ib,Eh]<;>rfl
     .cases h;rw[qh (show aB.bn 21=Eb gW from rfl) (by simp)];simp only[go_sem,seval,gW,iH,Y,w2,hn,wa,jg h4,w5,vk,w6,hk,w7,w8,w9,ep,Eh]<;>rfl
    |false=>
     rw[hk,cond_false,qk]at h;obtain⟨e2,h8,h⟩:=qd h;obtain⟨e3,h9,h⟩:=qd h;have w8:=aF.ae (dp h8);have w9:ae aB (X aB) 17 [.list Eg 1 [Iv e1,Iv e2]]=Eb (Iv e3,Eg):=aF.ae (fC h9);rcases qe h with⟨ep,h⟩|⟨ep,h⟩
     .obtain⟨a,gA,h⟩:=qd h;obtain⟨s,jL,h⟩:=qd h;have nD:=VW (H:=H) gA;have mQ:qp H.length (sl 1 jf a.1) H=H:=jw rfl;have ou:=FU jL;cases h;cases ib:decide (s=[])
      .rw[qh (show aB.bn 21=Eb gW from rfl) (by simp)];simp only[go_sem,seval,gW,iH,Y,w2,hn,wa,jg h4,w5,vk,w6,hk,w8,w9,ep,nD,mQ,ou,ib,Eh]<;>rfl
      .rw[qh (show aB.bn 21=Eb gW from rfl) (by simp)];simp only[go_sem,seval,gW,iH,Y,w2,hn,wa,jg h4,w5,vk,w6,hk,w8,w9,ep,nD,mQ,ou,ib,Eh]<;>rfl
     .cases h;rw[qh (show aB.bn 21=Eb gW from rfl) (by simp)];simp only[go_sem,seval,gW,iH,Y,w2,hn,wa,jg h4,w5,vk,w6,hk,w8,w9,ep,Eh]<;>rfl
  .cases h;rw[qh (show aB.bn 21=Eb gW from rfl) (by simp)];simp only[go_sem,seval,gW,iH,Y,Eh]<;>rfl
end Go.Z
namespace Go.Z
open Go Go.Abs Go.W
abbrev fm:bG:=.map Gg
abbrev iK:bG:=.map y9
theorem jof:∀ f∈fk,Nat.beq f.2.2 0=Eg:=by decide
theorem jqk {w:aj}{q}(h:lA w=Eb q):Cn w=.fn (.func q.2.2) [] []/\J3 w=q.2.1/\Co w=E3:=by
 refine⟨?_,?_,?_⟩
 .have hm:=Hg (show fk.find? (fun f=>decide (w=f.1))=Eb q from h);simp only[Cn,h,fnv,jof q hm,cond_false]
 .simp only[J3,h]
 .simp only[Co,h];rfl
theorem J4 {w:aj}(h:lA w=G1):Co w=Eg:=by simp only[Co,h];rfl
section
variable {H:qi}{p:Nat}{e0 x1 x2:AVal×Bool}{n:Nat}{line:aj}{e1 e2 e3:Int}{l:ak aj}{w:aj}
theorem juw (k1:f18 (decide (4096<(line.length:Int))) 27=Eb e1)(k2:f18 (decide (line=[])) 26=Eb e2)(k3:f17 (Eb [e1,e2])=Eb e3)(h3:decide (e3=0)=Eg):
  ai aB (X aB) 8 [.ptr p 0,.str line] H=Eb (.bq [.str [],Iv e3],Eg,H):=by
 have w1:=aF.ae (dp k1);have w2:=aF.ae (dp k2);have w3:ae aB (X aB) 17 [.list Eg 1 [Iv e1,Iv e2]]=Eb (Iv e3,Eg):=aF.ae (fC k3);rw[qh (show aB.bn 8=Eb c8 from rfl) (by simp)];simp only[go_sem,seval,c8,w1,w2,w3,h3,Eh]<;>rfl
section
variable (k1:f18 (decide (4096<(line.length:Int))) 27=Eb e1)(k2:f18 (decide (line=[])) 26=Eb e2)(k3:f17 (Eb [e1,e2])=Eb e3)(h3:decide (e3=0)=E3)(k4:f19 line [32]=Eb l)(k5:qo (l.getD []) 0=Eb w)
include k1 k2 k3 h3 k4 k5
theorem jpa {q r L a}(kq:lA w=Eb q)(hn:ai aB (X aB) 36 [.ptr p 0] (H++[fm])=Eb (aR r,Eg,(H++[fm])++L))(hB:qr (H++[fm]).length (H++[fm])=E3)(ka:Cp r q.2.1 q.2.2 l=Eb a):
  ai aB (X aB) 8 [.ptr p 0,.str line] H=Eb (.bq [.str a.1,Iv a.2],Eg,H++[fm]):=by
 have w1:=aF.ae (dp k1);have w2:=aF.ae (dp k2);have w3:ae aB (X aB) 17 [.list Eg 1 [Iv e1,Iv e2]]=Eb (Iv e3,Eg):=aF.ae (fC k3);have w4:=BL k4;obtain⟨q1,q2,q3⟩:=jqk kq;have wk:=jzy hn hB ka;have wa:qp (H++[fm]).length (.bq [.str a.1,Iv a.2]) (H++[fm])=H++[fm]:=jw rfl;rw[qh (show aB.bn 8=Eb c8 from rfl) (by simp)];simp only[go_sem,seval,c8,w1,w2,w3,h3,w4,jg k5,Gh,q1,q2,q3,yc,lQ,ke,lR,kz,ky,E4,Hd,Ha,decide_false,decide_true,Hb,wk,wa,Eh]<;>rfl
theorem jo5 (kq:lA w=G1)(kf:lP w=Eg):ai aB (X aB) 8 [.ptr p 0,.str line] H=Eb (.bq [.str [],Iv 13],Eg,H++[fm,iK]):=by
 have w1:=aF.ae (dp k1);have w2:=aF.ae (dp k2);have w3:ae aB (X aB) 17 [.list Eg 1 [Iv e1,Iv e2]]=Eb (Iv e3,Eg):=aF.ae (fC k3);have w4:=BL k4;have q3:=J4 kq;rw[qh (show aB.bn 8=Eb c8 from rfl) (by simp)];simp only[go_sem,seval,c8,w1,w2,w3,h3,w4,jg k5,Gh,q3,sQ,kf,yc,lQ,ke,lR,kz,ky,E4,Hd,Ha,decide_false,decide_true,Hb,En,Ep,Eh]<;>rfl
section
variable (hp:qy H p=Eb [e0,x1,x2])(hl:∀h,um 1 h (Eb e0.1)=Eb ⟨Iv (n:Int),Eg,G1,h⟩)(kq:lA w=G1)(kf:lP w=E3){x:GEv×Bool}(k6:f23 l (qf .i64 ((n:Int)+1))=Eb x){e4 e5 e6:Int}
  (k7:f18 (!x.2) 26=Eb e4) (k8:f18 (decide (1000<=(n:Int))) 5=Eb e5) (k9:f17 (Eb [e4,e5])=Eb e6)
include hp hl kq kf k6 k7 k8 k9
theorem jlv (h6:decide (e6=0)=Eg):ai aB (X aB) 8 [.ptr p 0,.str line] H=Eb (.bq [.str [],Iv e6],Eg,H++[fm,iK]):=by
 have w1:=aF.ae (dp k1);have w2:=aF.ae (dp k2);have w3:ae aB (X aB) 17 [.list Eg 1 [Iv e1,Iv e2]]=Eb (Iv e3,Eg):=aF.ae (fC k3);have w4:=BL k4;have q3:=J4 kq;have w6:=JK k6;have w7:=aF.ae (dp k7);have w8:=aF.ae (dp k8);have w9:ae aB (X aB) 17 [.list Eg 1 [Iv e4,Iv e5]]=Eb (Iv e6,Eg):=aF.ae (fC k9);have g0:=Ce hp;have bh:=vi hp
 have en:p<H.length+2:=by omega
 rw[qh (show aB.bn 8=Eb c8 from rfl) (by simp)];simp only[go_sem,seval,c8,w1,w2,w3,h3,w4,jg k5,Gh,q3,sQ,kf,yc,lQ,ke,lR,kz,ky,E4,Hd,Ha,decide_false,decide_true,Hb,En,Ep,Eh,g0,en,hl,w6,w7,w8,w9,h6]<;>rfl
section
variable (h6:decide (e6=0)=E3){c:Int}(zN:f24 x.1=Eb c)
include h6 zN
theorem jll (hc:decide (c=0)=Eg):ai aB (X aB) 8 [.ptr p 0,.str line] H=Eb (.bq [.str [],Iv c],Eg,H++[fm,iK]):=by
 have w1:=aF.ae (dp k1);have w2:=aF.ae (dp k2);have w3:ae aB (X aB) 17 [.list Eg 1 [Iv e1,Iv e2]]=Eb (Iv e3,Eg):=aF.ae (fC k3);have w4:=BL k4;have q3:=J4 kq;have w6:=JK k6;have w7:=aF.ae (dp k7);have w8:=aF.ae (dp k8);have w9:ae aB (X aB) 17 [.list Eg 1 [Iv e4,Iv e5]]=Eb (Iv e6,Eg):=aF.ae (fC k9);have J5:ae aB (X aB) 24 [aE x.1]=Eb (Iv c,Eg):=aF.ae (FW zN);have g0:=Ce hp;have bh:=vi hp
 have en:p<H.length+2:=by omega
 rw[qh (show aB.bn 8=Eb c8 from rfl) (by simp)];simp only[go_sem,seval,c8,w1,w2,w3,h3,w4,jg k5,Gh,q3,sQ,kf,yc,lQ,ke,lR,kz,ky,E4,Hd,Ha,decide_false,decide_true,Hb,En,Ep,Eh,g0,en,hl,w6,w7,w8,w9,h6,J5,hc]<;>rfl
section
variable (hc:decide (c=0)=E3){q:Int}{hh H2:qi}(ka:ai aB (X aB) 25 [.ptr p 0,aE x.1] (H++[fm,iK])=Eb (Iv q,Eg,hh))(kw:qp (H.length+2) (Iv q) hh=H2)
include hc ka kw
theorem js7 (hq:decide (q=0)=Eg):ai aB (X aB) 8 [.ptr p 0,.str line] H=Eb (.bq [.str [],Iv q],Eg,H2):=by
 have w1:=aF.ae (dp k1);have w2:=aF.ae (dp k2);have w3:ae aB (X aB) 17 [.list Eg 1 [Iv e1,Iv e2]]=Eb (Iv e3,Eg):=aF.ae (fC k3);have w4:=BL k4;have q3:=J4 kq;have w6:=JK k6;have w7:=aF.ae (dp k7);have w8:=aF.ae (dp k8);have w9:ae aB (X aB) 17 [.list Eg 1 [Iv e4,Iv e5]]=Eb (Iv e6,Eg):=aF.ae (fC k9);have J5:ae aB (X aB) 24 [aE x.1]=Eb (Iv c,Eg):=aF.ae (FW zN);have g0:=Ce hp;have bh:=vi hp
 have en:p<H.length+2:=by omega
 rw[qh (show aB.bn 8=Eb c8 from rfl) (by simp)];simp only[go_sem,seval,c8,w1,w2,w3,h3,w4,jg k5,Gh,q3,sQ,kf,yc,lQ,ke,lR,kz,ky,E4,Hd,Ha,decide_false,decide_true,Hb,En,Ep,Eh,g0,en,hl,w6,w7,w8,w9,h6,J5,hc,ka,kw,hq]<;>rfl
theorem jpk (hq:decide (q=0)=E3){s t:aj}(VX:f26 x.1.number=Eb s)(VY:kF ([100,111,110,101,32]:aj) s=Eb t):ai aB (X aB) 8 [.ptr p 0,.str line] H=Eb (.bq [.str t,Iv 0],Eg,H2):=by
 have w1:=aF.ae (dp k1);have w2:=aF.ae (dp k2);have w3:ae aB (X aB) 17 [.list Eg 1 [Iv e1,Iv e2]]=Eb (Iv e3,Eg):=aF.ae (fC k3);have w4:=BL k4;have q3:=J4 kq;have w6:=JK k6;have w7:=aF.ae (dp k7);have w8:=aF.ae (dp k8);have w9:ae aB (X aB) 17 [.list Eg 1 [Iv e4,Iv e5]]=Eb (Iv e6,Eg):=aF.ae (fC k9);have J5:ae aB (X aB) 24 [aE x.1]=Eb (Iv c,Eg):=aF.ae (FW zN);have nD:=JH VX;have g0:=Ce hp;have bh:=vi hp
 have en:p<H.length+2:=by omega
 rw[qh (show aB.bn 8=Eb c8 from rfl) (by simp)];simp only[go_sem,seval,c8,w1,w2,w3,h3,w4,jg k5,Gh,q3,sQ,kf,yc,lQ,ke,lR,kz,ky,E4,Hd,Ha,decide_false,decide_true,Hb,En,Ep,Eh,g0,en,hl,w6,w7,w8,w9,h6,J5,hc,ka,kw,hq,nD,rh VY]<;>rfl
end
end
end
end
end
end Go.Z
namespace Go.Z
open Go Go.Abs Go.W
theorem Gi {b n m:Nat}(h:n<=m)(hb:Nat.blt b n=E3):Nat.blt b m=E3:=Hz.mpr (Nat.lt_of_lt_of_le (Hz.mp hb) h)
mutual
theorem Gj {n m:Nat}(h:n<=m):∀x,Abs.below n x=E3->Abs.below m x=E3
 | .ms ..,hb=>by simp only[Abs.below]at hb ⊢;exact Gi h hb
 | .ptr ..,hb=>by simp only[Abs.below]at hb ⊢;exact Gi h hb
 | .map ..,hb=>by simp only[Abs.below]at hb ⊢;exact Gi h hb
 | .az ..,hb=>by simp only[Abs.below]at hb ⊢;exact Gi h hb
 | .dN ..,hb=>by simp only[Abs.below]at hb ⊢;exact Gi h hb
 | .aq v,hb=>by simp only[Abs.below]at hb ⊢;exact Gj h v hb
 | .list _ _ xs,hb=>by simp only[Abs.below]at hb ⊢;exact Gk h xs hb
 | .agg cs,hb=>by simp only[Abs.below]at hb ⊢;exact Gk h cs hb
 | .bq vs,hb=>by simp only[Abs.below]at hb ⊢;exact Gk h vs hb
 | .fn f fs cs,hb=>by
  have Y:=Gk h fs;have I:=Gk h cs
  cases f<;>simp only[Abs.below,E9]at hb ⊢<;>first|exact⟨⟨Gi h hb.1.1,Y hb.1.2⟩,I hb.2⟩|exact⟨Y hb.1,I hb.2⟩
 | .bool _,_=>rfl| .int _ _,_=>rfl| .str _,_=>rfl| .cC,_=>rfl| .cD,_=>rfl| .cO,_=>rfl| .undef,_=>rfl| .any,_=>rfl| .dG _,_=>rfl
theorem Gk {n m:Nat}(h:n<=m):∀xs,qt n xs=E3->qt m xs=E3
 | [],_=>rfl
 |x::xs,hb=>by
  simp only[qt,E9]at hb ⊢;exact⟨Gj h x hb.1,Gk h xs hb.2⟩
end
theorem qmz {n m:Nat}(h:n<=m):∀ {cs},zn n cs=E3->zn m cs=E3
 | [],_=>rfl
 |(v,_)::cs,hb=>by
  simp only[zn,E9]at hb ⊢;exact⟨Gj h v hb.1,qmz h hb.2⟩
theorem qkl {n m:Nat}(h:n<=m):∀ {cs},y8 n cs=E3->y8 m cs=E3
 | [],_=>rfl
 |(k,v)::cs,hb=>by
  simp only[y8,E9]at hb ⊢;exact⟨⟨Gj h k hb.1.1,Gj h v hb.1.2⟩,qkl h hb.2⟩
theorem qq3 {n m:Nat}(h:n<=m):∀ {cs},lU n cs=E3->lU m cs=E3
 | [],_=>rfl
 |(_,v,_)::cs,hb=>by
  simp only[lU,E9]at hb ⊢;exact⟨Gj h v hb.1,qq3 h hb.2⟩
theorem q3y {n m:Nat}(h:n<=m):∀ {x},ze n x=E3->ze m x=E3
 | .hole,_=>rfl| .cells cs,hb=>qmz h hb| .map es,hb=>qkl h hb| .iter _ _,_=>rfl| .fW ..,_=>rfl| .dead,_=>rfl| .vec ..,_=>rfl| .loop l,hb=>qq3 h hb
theorem J6 {n m:Nat}(h:n<=m):∀ {H},qr n H=E3->qr m H=E3
 | [],_=>rfl
 |x::H,hb=>by
  simp only[qr,E9]at hb ⊢;exact⟨q3y h hb.1,J6 h hb.2⟩
theorem VZ {n:Nat}:∀ {H L:qi},qr n (H++L)=(qr n H&&qr n L)
 | [],L=>by simp[qr]
 |x::H,L=>by simp only[Hy,qr,VZ (H:=H),Bool.and_assoc]
theorem grown {H L:qi}(hB:qr H.length H=E3)(hL:qr (H++L).length L=E3):qr (H++L).length (H++L)=E3:=by
 rw[VZ,hL,H4];exact J6 (by rw[En];omega) hB
theorem Gl {H:qi}{i:Nat}{x:bG}(h:H[i]?=Eb x):H.set i x=H:=by
 obtain⟨Y,I⟩:=Hk.1 h;rw[<-I];exact List.set_getElem_self Y
structure iA (H:qi)(p a b c:Nat)(s:HV):Prop where
 d:D4 H p a b c
 hp:H[p]?=Eb (kV s a b c)
 ha:H[a]?=Eb (.vec 5 s.ve (s.ev.map vev))
 hb:H[b]?=Eb (.vec 5 s.vc (s.cs.map vev))
 hc:H[c]?=Eb (.vec 4 s.vs (s.ss.map ju))
 kK:qr H.length H=E3
structure eM (H:qi)(p c:Nat):Prop where
 d:D2 H p c
 hp:H[p]?=Eb (kP c)
 hc:H[c]?=Eb (.vec 4 0 [aZ])
 kK:qr H.length H=E3
section
variable {H L:qi}{p a b c:Nat}{s:HV}
theorem iA.eq (S:iA H p a b c s):sH H p a b c s=H:=by
 show(((H.set p _).set a _).set b _).set c _=H;rw[Gl S.hp,Gl S.ha,Gl S.hb,Gl S.hc]
theorem eM.eq (S:eM H p c):rC H p c=H:=by
 show(H.set p _).set c _=H;rw[Gl S.hp,Gl S.hc]
theorem D4.app (D:D4 H p a b c)(L:qi):D4 (H++L) p a b c:=by
 obtain⟨Y,I,h3,h4,h5,h6,h7,h8,h9,ep⟩:=D
 constructor<;>first|assumption|(rw[En];omega)
theorem D2.app (D:D2 H p c)(L:qi):D2 (H++L) p c:=by
 obtain⟨Y,I,h3⟩:=D
 constructor<;>first|assumption|(rw[En];omega)
theorem iA.app (S:iA H p a b c s)(hL:qr (H++L).length L=E3):iA (H++L) p a b c s:=
 ⟨S.d.app L,oq S.hp L,oq S.ha L,oq S.hb L,oq S.hc L,grown S.kK hL⟩
theorem eM.app (S:eM H p c)(hL:qr (H++L).length L=E3):eM (H++L) p c:=
 ⟨S.d.app L,oq S.hp L,oq S.hc L,grown S.kK hL⟩
theorem jqh (D:D4 H p a b c){P A B C:bG}:cK (H++L) p a b c P A B C=cK H p a b c P A B C++L:=by
 unfold cK;rw[E8 _ _ D.lp,E8 _ _ (by rw[Hq];exact D.la),E8 _ _ (by simp only[Hq];exact D.lb),E8 _ _ (by simp only[Hq];exact D.lc)]
theorem J7 {P A B C:bG}:(cK H p a b c P A B C).length=H.length:=ot
theorem iA.gZ (D:D4 H p a b c)(hB:qr H.length H=E3):iA (sH H p a b c s) p a b c s:=by
 refine⟨?_,wW D,jsl D,VH D,VI D,?_⟩
 .obtain⟨Y,I,h3,h4,h5,h6,h7,h8,h9,ep⟩:=D
  constructor<;>first|assumption|(rw[J7];assumption)
 .rw[J7];exact JS hB (F9 D.la D.lb D.lc) rfl rfl rfl
theorem iA.first (D:D2 H p c)(hB:qr H.length H=E3):iA (rD H p c s) p (H.length+2) H.length c s:=by
 have hlen:(rD H p c s).length=H.length+3:=by simp[rD,En,pV]
 refine⟨?_,jgr D _,?_,?_,jfr D _,?_⟩
 .have Y:=D.lp;have I:=D.lc;have h3:=D.pc
  constructor<;>first|exact h3|(rw[hlen];omega)|omega
 .exact Cl _ 2
 .exact JV _
 .rw[hlen];show qr (H.length+3) (dU H p c _ _++_)=E3;rw[VZ];have I:=D.lc;have hk:ze (H.length+3) (kV s (H.length+2) H.length c)=E3:=F9 (by omega) (by omega) (by omega);rw[jgm (J6 (by omega) hB) hk rfl];rfl
end
structure SS where
 H:qi
 p:Nat
 a:Nat
 b:Nat
 c:Nat
 v:Option HV
def SS.ok (S:SS):Prop:=match S.v with
 |none=>eM S.H S.p S.c|some s=>iA S.H S.p S.a S.b S.c s
def SS.next (S:SS)(o:Option HV):SS:=match S.v,o with
 |some _,Eb s=>{ S with H:=sH S.H S.p S.a S.b S.c s,v:=Eb s }|none,Eb s=>{ H:=rD (S.H++[fm,iK]) S.p S.c s,p:=S.p,a:=S.H.length+4,b:=S.H.length+2,c:=S.c,v:=Eb s }|_,G1=>S
def fK:Option HV->List GEv
 |none=>[]|some s=>s.ev
def mR (o:Option HV)(line:aj):Option (aj×Int×Option HV):=
 qc (f18 (decide (4096<(line.length:Int))) 27) fun e1=>
 qc (f18 (decide (line=[])) 26) fun e2=>
 qc (f17 (Eb [e1,e2])) fun e3=>
 cond (decide (e3=0))
  (qc (f19 line [32]) fun l=>
  qc (qo (l.getD []) 0) fun w=>
  match lA w with
  |some q=>qc (Nu o) fun r=>qc (Cp r q.2.1 q.2.2 l) fun a=>Eb (a.1,a.2,o)
  |none=>cond (lP w)
    (qc (f23 l (qf .i64 (((fK o).length:Int)+1))) fun x=>
    qc (f18 (!x.2) 26) fun e4=>
    qc (f18 (decide (1000<=((fK o).length:Int))) 5) fun e5=>
    qc (f17 (Eb [e4,e5])) fun e6=>
    cond (decide (e6=0))
     (qc (f24 x.1) fun c=>
     cond (decide (c=0))
      (qc (qZ o x.1) fun q=>
      cond (decide (q.1=0))
       (qc (f26 x.1.number) fun s=>
       qc (kF ([100,111,110,101,32]:aj) s) fun t=>Eb (t,0,q.2))
       (Eb ([],q.1,q.2)))
      (Eb ([],c,o)))
     (Eb ([],e6,o)))
    (Eb ([],13,o)))
  (Eb ([],e3,o))
theorem V0 {n:Nat}:qr n [fm,iK]=E3:=by
 refine J6 (Nat.zero_le n) ?_;rfl
theorem jdi {n:Nat}:qr n [fm]=E3:=by
 refine J6 (Nat.zero_le n) ?_;rfl
end Go.Z
end
