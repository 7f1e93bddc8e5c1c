/- Chapter 10, plain. -/
import Derived.Test.YtlhfdilpecnjeaaGreatDoorEF
set_option linter.unusedVariables false
set_option linter.unusedSimpArgs false
set_option maxRecDepth 100000
set_option maxHeartbeats 4000000
noncomputable section
open List renaming mem_of_getElem?->En,mem_append->E6,mem_singleton->Ha,not_mem_nil->Hb,mem_of_getLast?->Hc,all_eq_true->H2
namespace Go.Z
open Go Go.Abs Go.W
def Nm (s:Str):Prop:=s.length<=24/\s≠[]
structure NB (r:yc):Prop where
 L:∀x∈r.az,Nm x.name/\0<=x.left/\x.left<=10000
 P:∀p∈r.ah,(∀t∈p.bW.aS,Nm t.k)/\∀d∈p.bm,∀t∈d.aS,Nm t.k
 U:∀u∈r.units,Nm u.name/\∀x∈u.uses,Nm x.k
theorem NB.empty:NB mE:=⟨fun p (hp:p∈([]:List _))=>absurd hp Hb,fun p (hp:p∈([]:List wP))=>absurd hp Hb,fun u (hu:u∈([]:List lj))=>absurd hu Hb⟩
theorem NB.bI {r}(h:NB r){i p}(hp:(∀t∈p.bW.aS,Nm t.k)/\∀d∈p.bm,∀t∈d.aS,Nm t.k):NB (bI r i p):=
 ⟨h.L,fun q hq=>by
  rcases tw hq with hq|rfl
  ·exact h.P q hq
  ·exact hp,h.U⟩
theorem NB.aH {r}(h:NB r){i u}(hu:Nm u.name/\∀x∈u.uses,Nm x.k):NB (aH r i u):=
 ⟨h.L,h.P,fun q hq=>by
  rcases tw hq with hq|rfl
  ·exact h.U q hq
  ·exact hu⟩
theorem NB.cy {r}(h:NB r){i x}(M:Nm x.name/\0<=x.left/\x.left<=10000):NB (cy r i x):=
 ⟨fun q hq=>by
  rcases tw hq with hq|rfl
  ·exact h.L q hq
  ·exact M,h.P,h.U⟩
theorem jib {α:Type}{p:α->Bool}{x y:α}{l}(h:y∈ki p x l):y=x\/y∈l:=by
 unfold ki at h;split at h
 .rcases tw h with h|h
  .exact .inr h
  .exact .inl h
 .rcases E6.1 h with h|h
  .exact .inr h
  .exact .inl (Ha.1 h)
theorem jjz {s:aj}(h:Go.W.cj s=true):Nm s:=by
 unfold Go.W.cj at h;split at h
 .cases h
 .simp only[Bool.and_eq_true,decide_eq_true_eq]at h;exact⟨h.2,by simp⟩
theorem j0r {e:cf}(h:qz e=0)(hu:e.kind≠oh):Nm (nm e 0)/\(e.kind=lO->Nm (nm e 1))/\0<=vl e 1:=by
 have hn:(∃f,ye e.kind=some f/\e.names.length=f.1)/\(∀s∈e.names,Go.W.cj s=true)/\∀v∈e.values,0<=v:=by
  unfold qz at h;split at h
  .cases h
  split at h
  .cases h
  rename_i f hf;split at h
  .cases h
  rename_i hl;split at h
  .cases h
  rename_i hn;split at h
  .cases h
  rename_i hv;refine⟨⟨f,hf,by omega⟩,H2.1 (by simpa using hn),fun v hm=>?_⟩;have hv:=H2.1 (show(e.values.all fun n=>decide (0<=n)&&decide (n<=999999999))=true by simpa using hv) v hm;simp only[Bool.and_eq_true,decide_eq_true_eq]at hv;exact hv.1
 obtain⟨⟨f,hf,hl⟩,hn,iL⟩:=hn
 have oO:0<=vl e 1:=by
  unfold vl
  cases M:e.values[1]? with
  |none=>exact Int.le_refl _|some v=>exact iL v (En M)
 have g:∀i,i<e.names.length->Nm (nm e i):=fun i hi=>by
  unfold nm;rw[List.getElem?_eq_getElem hi];exact jjz (hn _ (List.getElem_mem hi))
 have hm:(e.kind,f)∈cA:=by
  unfold ye at hf
  cases M:cA.find? fun x=>decide (x.1=e.kind)with
  |none=>rw[M]at hf;cases hf
  |some x=>
   rw[M]at hf;obtain rfl:x.2=f:=Option.some.inj hf
   have Y:x.1=e.kind:=by simpa using List.find?_some M
   rw[<-Y];exact List.mem_of_find?_eq_some M
 have k1:∀x∈cA,(x.1=oh\/0<x.2.1)/\(x.1=lO->1<x.2.1):=by decide
 obtain⟨k2,k3⟩:=k1 _ hm;refine⟨g 0 (k2.elim (fun k2=>absurd k2 hu) fun k2=>by rw[hl];exact k2),fun ht=>g 1 (by rw[hl];exact k3 ht),oO⟩
theorem jnw {r r' e}(hn:Nm (nm e 0)/\(e.kind=lO->Nm (nm e 1))/\0<=vl e 1)(h:NB r)(ha:apply (qd .i64) r e=.ok r'):NB r':=by
 have G:=hn.1;unfold apply at ha;split at ha
 .unfold pn at ha;split at ha
  .repeat' split at ha
   all_goals first|(cases ha;done)|skip
   cases ha;refine⟨fun x M=>?_,h.P,h.U⟩;rcases E6.1 M with M|M
   .exact h.L x M
   .simp at M;subst M;exact⟨G,by show 0<=vl e 1;omega,by show vl e 1<=10000;omega⟩
  split at ha
  .repeat' split at ha
   all_goals first|(cases ha;done)|skip
   cases ha;refine⟨h.L,fun p hp=>?_,h.U⟩;rcases E6.1 hp with hp|hp
   .exact h.P p hp
   .simp at hp;subst hp;simp
  .split at ha
   .cases ha
   repeat' split at ha
   all_goals first|(cases ha;done)|skip
   cases ha;refine⟨h.L,h.P,fun p hp=>?_⟩;rcases E6.1 hp with hp|hp
   .exact h.U p hp
   .simp at hp;subst hp;exact⟨G,by simp⟩
 split at ha
 .unfold po at ha;split at ha
  .cases ha
  split at ha
  .cases ha
  rename_i p hp;have hD:=h.P p (En hp)
  repeat' split at ha
  all_goals first|(cases ha;done)|skip
  .cases ha;exact h.bI ⟨hD.1,hD.2⟩
  .cases ha;refine h.bI ⟨fun t ht=>?_,hD.2⟩;rcases jib ht with rfl|ht
   .exact hn.2.1 (by assumption)
   .exact hD.1 t ht
  .cases ha;refine h.bI ⟨hD.1,fun d hd=>?_⟩;rcases E6.1 hd with hd|hd
   .exact hD.2 d hd
   .simp at hd;subst hd;exact hD.1
 split at ha
 .unfold vr at ha;split at ha
  .cases ha
  split at ha
  .cases ha
  rename_i x M;have hX:=h.L x (En M)
  repeat' split at ha
  all_goals first|(cases ha;done)|skip
  all_goals (cases ha;exact h.cy hX)
 .unfold pq at ha;split at ha
  .cases ha
  split at ha
  .cases ha
  rename_i u hu;have hN:=h.U u (En hu);split at ha
  .unfold wY at ha;split at ha
   .cases ha
   split at ha
   .cases ha
   rename_i x M;have hX:=h.L x (En M)
   repeat' split at ha
   all_goals first|(cases ha;done)|skip
   cases ha;apply NB.aH
   .apply NB.cy h;have hv:=hn.2.2;refine⟨hX.1,?_⟩;show 0<=qd .i64 (x.left-vl e 1)/\qd .i64 (x.left-vl e 1)<=10000;rw[N7 (by omega) (by omega)];omega
   .refine⟨hN.1,fun y hy=>?_⟩;rcases q0m hy with hy|hy
    .rw[hy];exact hX.1
    .exact hN.2 y hy
  split at ha
  .unfold wZ at ha;split at ha
   .cases ha
   split at ha
   .cases ha
   rename_i v hv;have hV:=h.U v (En hv)
   repeat' split at ha
   all_goals first|(cases ha;done)|skip
   cases ha;exact(h.aH (u:={ u with partner:=v.name }) ⟨hN.1,hN.2⟩).aH (u:={ v with partner:=u.name }) ⟨hV.1,hV.2⟩
  split at ha
  .repeat' split at ha
   all_goals first|(cases ha;done)|skip
   cases ha;exact h.aH ⟨hN.1,hN.2⟩
  split at ha
  .split at ha
   .cases ha
   split at ha
   .cases ha
   split at ha
   .cases ha
   .cases ha;exact h.aH ⟨hN.1,hN.2⟩
  split at ha
  .split at ha
   .cases ha
   .cases ha;exact h.aH ⟨hN.1,hN.2⟩
  .split at ha
   .cases ha
   .cases ha;exact h.aH ⟨hN.1,hN.2⟩
theorem jly {r r' e}(hn:Nm (nm e 0)/\(e.kind=lO->Nm (nm e 1))/\0<=vl e 1)(h:NB r)(ha:after (qd .i64) r e=.ok r'):NB r':=by
 unfold after at ha;split at ha
 .cases ha
 split at ha
 .cases ha
 rename_i r1 Y;cases ha;have:=jnw hn h Y;exact⟨this.L,this.P,this.U⟩
def HN (h:yj):Prop:=∀r∈h.2,NB r
theorem HN.empty:HN ([],[mE]):=by
 intro r Q;rw[Ha.1 Q];exact NB.empty
theorem HN.accept {h h' k e}(hc:qz e=0)(b:HN h)(ha:Go.W.accept (qd .i64) h k e=.ok h'):HN h':=by
 have dD:NB (now h):=by
  unfold now
  cases hl:h.2.getLast? with
  |none=>exact NB.empty|some r=>exact b r (Hc hl)
 unfold Go.W.accept at ha;split at ha
 .cases ha
 split at ha
 .split at ha
  .cases ha
  split at ha
  .cases ha
  .cases ha;intro r Q;exact b r ((List.dropLast_sublist h.2).subset Q)
 .rename_i hu;split at ha
  .cases ha
  .rename_i r' Y;cases ha;intro r Q;rcases E6.1 Q with Q|Q
   .exact b r Q
   .rw[Ha.1 Q];exact jly (j0r hc hu) dD Y
theorem HN.now {h:yj}(b:HN h):NB (Go.W.now h):=by
 unfold Go.W.now
 cases hl:h.2.getLast? with
 |none=>exact NB.empty|some r=>exact b r (Hc hl)
theorem q1k:∀ {l:List cf} {i:Nat} {h h':yj},HN h->ya (qd .i64) i h l=.ok h'->HN h'
 | [],i,h,h',b,Q=>by simp only[ya]at Q;cases Q;exact b
 |e::l,i,h,h',b,Q=>by
  simp only[ya]at Q;split at Q
  .cases Q
  rename_i hc;split at Q
  .cases Q
  .rename_i Y ha;exact q1k (b.accept (by simpa using hc) ha) Q
theorem jyk {l:List cf}{h:yj}(Q:run (qd .i64) l=.ok h):HN h:=by
 unfold run at Q;split at Q
 .cases Q
 .exact q1k HN.empty Q
theorem qsu {w:Int->Int}{e:cf}:∀ {l:List cf} {i:Nat} {h h' I:yj},ya w i h l=.ok h'->qz e=0->Go.W.accept w h' (((i+l.length:Nat):Int)+1) e=.ok I->ya w i h (l++[e])=.ok I
 | [],i,h,h',I,Q,hc,ha=>by
  simp only[ya]at Q;cases Q;simp only[List.nil_append,ya];rw[if_neg (by simp[hc])];rw[show((i:Int)+1)=(((i+([]:List cf).length:Nat):Int)+1) by simp,ha]
 |x::l,i,h,h',I,Q,hc,ha=>by
  simp only[ya,List.cons_append]at Q ⊢;split at Q
  .cases Q
  rename_i M;rw[if_neg M];split at Q
  .cases Q
  .rename_i Y hh;exact qsu Q hc (by rw[show i+1+l.length=i+(x::l).length by simp;omega];exact ha)
theorem q9d {w:Int->Int}{l:List cf}{e:cf}{h I:yj}(Q:run w l=.ok h)(hn:l.length<1000)(hc:qz e=0)(ha:Go.W.accept w h ((l.length:Int)+1) e=.ok I):run w (l++[e])=.ok I:=by
 unfold run at Q ⊢;rw[if_neg (by omega)]at Q;rw[if_neg (by simp;omega)];exact qsu Q hc (by rw[Nat.zero_add];exact ha)
theorem qwr {w:Int->Int}:∀ {l:List cf} {i:Nat} {h h':yj},ya w i h l=.ok h'->∀e∈l,qz e=0
 | [],i,h,h',Q,e,he=>by cases he
 |x::l,i,h,h',Q,e,he=>by
  simp only[ya]at Q;split at Q
  .cases Q
  rename_i hc;split at Q
  .cases Q
  .rename_i Y ha;rcases List.mem_cons.1 he with rfl|he
   .simpa using hc
   .exact qwr Q e he
theorem OP {w:Int->Int}{l:List cf}{h:yj}(Q:run w l=.ok h):l.length<=1000/\∀e∈l,qz e=0:=by
 unfold run at Q;split at Q
 .cases Q
 .exact⟨by omega,qwr Q⟩
end Go.Z
end
