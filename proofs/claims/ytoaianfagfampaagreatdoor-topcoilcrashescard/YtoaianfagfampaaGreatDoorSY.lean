/- A session's history made anew and replayed, in any heap. -/
import Derived.Test.YtoaianfagfampaaGreatDoorSX
import Derived.Test.YtoaianfagfampaaGreatDoorSA
set_option linter.all false
set_option maxRecDepth 100000
set_option maxHeartbeats 4000000
noncomputable section
open List renaming length_append->Eb,append_assoc->En,getElem?_set_ne->Ep,append_nil->E8,getElem?_append_left->E9,getElem?_take->G4,length_cons->Hd,mem_cons->Hg
open Option renaming some->Eg,none->E3
open Bool renaming false->Eh,false_ne_true->G5,true->G7,eq_false_iff->Hb
open Nat renaming add_zero->E4,le_refl->G0,le_add_right->G1,zero_le->G8,lt_of_lt_of_le->Ha,zero_lt_succ->Hc,blt_eq->He,blt->Hf
namespace Go.Z
open Go Go.Abs Go.W
def LG (n:Nat):Option HV->qi
 |none=>[kO,kP (n+3),kP (n+3),.vec 4 0 [aZ]]|some v=>[kO,kV v (n+6) (n+4) (n+3),kP (n+3),.vec 4 v.vs (v.ss.map ju),.vec 5 v.vc (v.cs.map vev),.hole,.vec 5 v.ve (v.ev.map vev)]
theorem jr5 {H:qi}{e:Env}(he:z9 e 4 [(0,.tmp 1)]=Eg [(0,aZ)]):qg pr (X pr) (H.length+1) E3 e (H++[kO,.hole]) (.fL 0 4 1 [Iv 0,Nl,Nl,Nl] [(0,.tmp 1)])=Eg ⟨.az (H.length+1) 0 1,Eh,E3,H++[kO,.vec 4 0 [aZ]]⟩:=by
 have nb:aK (H.length+1) (H++[kO,.hole]) 0 (.vec 4 0 [aZ])=Eg (H++[kO,.vec 4 0 [aZ]]):=by
  unfold aK;rw[show H.length+1+0=H.length+1 from rfl,yc,ke];rfl
 have M:∀ps,ps=Eg [(0,aZ)]->(match ps with
  |some ps=>match lG (List.replicate 1 (bif Nat.beq 4 1 then([Iv 0,Nl,Nl,Nl]:List AVal).headD .undef else .agg [Iv 0,Nl,Nl,Nl])) ps with
   |some xs=>bif qt 0 xs then(match aK (H.length+1) (H++[kO,.hole]) 0 (.vec 4 0 xs)with
    |some h'=>val h' (.az (H.length+1+0) 0 xs.length)
    |none=>E3)else E3
   |none=>E3
  |none=>E3)=Eg ⟨.az (H.length+1) 0 1,Eh,E3,H++[kO,.vec 4 0 [aZ]]⟩:=by
  intro ps hp;subst hp
  show(match aK (H.length+1) (H++[kO,.hole]) 0 (.vec 4 0 [aZ])with
    |some h'=>val h' (.az (H.length+1+0) 0 1)
    |none=>E3)=_
  rw[nb];rfl
 exact M _ he
theorem jm1 {H:qi}:ai pr (X pr) 16 [] H=Eg (.agg [Nl,Nl,.az (H.length+1) 0 1],Eh,H++[kP (H.length+1),.vec 4 0 [aZ]]):=by
 have v:=@jr5 H [(1,aZ,Eh),(0,.ptr H.length 0,Eh)] rfl;rw[qh (show pr.bn 16=Eg J8 from rfl) (by simp)];simp only[go_sem,seval,J8,v,Eb,E4,kz,ky,ph,rB,yc,lQ,ke,lR,En]
theorem ja9 {H:qi}(hB:qr H.length H=G7)(o:Option HV):qr (H++LG H.length o).length (H++LG H.length o)=G7:=by
 refine grown hB ?_;rw[Eb]
 cases o with
 |none=>simp[LG,qr,ze,zn,qP];rfl|some v=>simp[LG,qr,ze,zn,qP];rfl
theorem jxp {H:qi}(hB:qr H.length H=G7){o:Option HV}{e:GEv}{q}(h:qZ o e=Eg q):∃hh,ai pr (X pr) 25 [.ptr (H.length+1) 0,aE e] (H++LG H.length o)=Eg (Iv q.1,Eh,hh)/\qp (H++LG H.length o).length (Iv q.1) hh=H++LG H.length q.2:=by
 cases o with
 |none=>
  have D:D2 (H++LG H.length E3) (H.length+1) (H.length+3):=by
   constructor<;>first|omega|(rw[Eb];simp[LG])
  have S:eM (H++LG H.length E3) (H.length+1) (H.length+3):=⟨D,(yc _ 1),(yc _ 3),ja9 hB E3⟩;obtain⟨hh,g1,g2⟩:=jh2 D S.kK (e:=e) (q:=q) h;rw[S.eq]at g1 g2;refine⟨hh,g1,?_⟩;rw[g2]
  cases q.2 with
  |none=>rfl
  |some v=>
   show dU (H++LG H.length E3) _ _ _ _++_=_;rw[show(H++LG H.length E3).length=H.length+4 by rw[Eb];rfl];unfold dU;rw[ke,ke,En];rfl
 |some s=>
  have D:D4 (H++LG H.length (Eg s)) (H.length+1) (H.length+6) (H.length+4) (H.length+3):=by
   constructor<;>first|omega|(rw[Eb];simp[LG])
  have S:iA (H++LG H.length (Eg s)) (H.length+1) (H.length+6) (H.length+4) (H.length+3) s:=⟨D,(yc _ 1),(yc _ 6),(yc _ 4),(yc _ 3),ja9 hB _⟩;obtain⟨z,hz,hy⟩:=qd h;cases hy;obtain⟨hh,g1,g2⟩:=jm0 D S.kK (e:=e) (q:=z) hz;rw[show cK (H++LG H.length (Eg s)) _ _ _ _ (kV s _ _ _) (.vec 5 s.ve (s.ev.map vev)) (.vec 5 s.vc (s.cs.map vev)) (.vec 4 s.vs (s.ss.map ju))=H++LG H.length (Eg s)from S.eq]at g1;refine⟨hh,g1,?_⟩;rw[g2];unfold cK;rw[ke,ke,ke,ke];rfl
theorem V1 {n:Nat}{o:Option HV}:0<(LG n o).length:=by cases o<;>exact Hc _
theorem V2 {n:Nat}{o:Option HV}:1<(LG n o).length:=by cases o<;>exact Nat.succ_lt_succ (Hc _)
theorem V3 {H:qi}{o:Option HV}:qy (H++LG H.length o) H.length=Eg [(Nl,Eh),(Nl,Eh),(Nl,Eh)]:=by
 rw[rB];cases o<;>rfl
theorem V4 {H:qi}{o:Option HV}:(H++LG H.length o).set H.length kO=H++LG H.length o:=by
 rw[lR];cases o<;>rfl
theorem zav {H:qi}(o o':Option HV){e:Env}:gc (H++LG H.length o).length ⟨e,H++LG H.length o'⟩=⟨e,H++LG H.length o'⟩:=by
 cases o with
 |none=>
  cases o' with
  |none=>exact yv (G0 _)
  |some v=>
   refine V5 ?_
   have hg:((H++LG H.length (Eg v)).take (H++LG H.length E3).length)[H.length+1]?=Eg (kV v (H.length+6) (H.length+4) (H.length+3)):=by
    rw[G4,if_pos (by rw[Eb];simp[LG]),yc];rfl
   refine JW ?_ hg;rw[Eb];simp[LG,ze,zn,qP]
 |some s=>
  refine yv ?_;show(H++LG H.length o').length<=(H++LG H.length (Eg s)).length;rw[Eb,Eb];cases o'<;>simp[LG]
def Gm (H:qi)(l:ak GEv)(x:Int×Option HV):bj:=⟨[(2,.ptr H.length 0,Eh),(5,.ptr (H.length+1) 0,Eh),(14,sl 5 vev l,Eh),(15,Lv l,Eh),(16,Iv x.1,Eh)],H++LG H.length x.2⟩
def Cq (H:qi)(l:ak GEv):(Int×Int×Option HV)⊕(Int×Option HV)->jc×bj
 | .inl d=>(.ret,⟨[(2,.ptr H.length 0,Eh),(3,Iv d.1,Eh),(4,Iv d.2.1,Eh)],H++LG H.length d.2.2⟩)| .inr d=>(.exit 0,⟨[(2,.ptr H.length 0,Eh),(5,.ptr (H.length+1) 0,Eh),(14,sl 5 vev l,Eh),(15,Lv l,Eh),(16,Iv d.1,Eh),(17,.bool Eh,Eh)],H++LG H.length d.2⟩)
theorem jzm {H:qi}(hB:qr H.length H=G7)(l:ak GEv)(x:Int×Option HV)(r)(h:pf l x=Eg r):js pr lS (Gm H l) (Cq H l) x r:=by
 rcases x with⟨i,o⟩;unfold pf at h;rcases qe h with⟨Y,h⟩|⟨Y,h⟩
 .obtain⟨e,I,h⟩:=qd h;obtain⟨c,h3,h⟩:=qd h;have w1:ae pr (X pr) 24 [aE e]=Eg (Iv c,Eh):=FW h3;rcases qe h with⟨h4,h⟩|⟨h4,h⟩
  .obtain⟨e2,h5,h⟩:=qd h;obtain⟨q,h6,h⟩:=qd h;have w2:ae pr (X pr) 35 [aE e]=Eg (aE e2,Eh):=W35 h5;obtain⟨hh,w3,wa⟩:=jxp hB (e:=e2) h6;rw[Eb]at wa;rcases qe h with⟨h7,h⟩|⟨h7,h⟩
   .cases h;exact z7 (bN:=Gm H l (qf .i64 (i+1),q.2)) (by simp only[go_sem,seval,lS,Gm,Y,jg I,w1,h4,w2,w3,wa,h7,Eb,kz,ky,V1,V2,V3,V4]<;>rfl) (zav o q.2)
   .cases h;exact qw (by simp only[go_sem,seval,lS,Gm,Y,jg I,w1,h4,w2,w3,wa,h7,Cq,Eb,kz,ky,V1,V2,V3,V4]<;>rfl)
  .cases h;exact qw (by simp only[go_sem,seval,lS,Gm,Y,jg I,w1,h4,Cq,Eb,kz,ky,V1,V2,V3,V4]<;>rfl)
 .cases h;exact qw (by simp only[go_sem,seval,lS,Gm,Y,Cq]<;>rfl)
end Go.Z
namespace Go.Z
open Go Go.Abs Go.W
def LQ (n:Nat):Option HV->qi
 |none=>[kP (n+3),kP (n+3),kP (n+3),.vec 4 0 [aZ]]|some v=>[kV v (n+6) (n+4) (n+3),kV v (n+6) (n+4) (n+3),kP (n+3),.vec 4 v.vs (v.ss.map ju),.vec 5 v.vc (v.cs.map vev),.hole,.vec 5 v.ve (v.ev.map vev)]
def Gn (n:Nat):Option HV->AVal
 |none=>.agg [Nl,Nl,.az (n+3) 0 1]|some v=>.agg [.az (n+6) v.ve v.ev.length,.az (n+4) v.vc v.lc,.az (n+3) v.vs v.ls]
def Gp (n:Nat):(Int×Int)⊕Option HV->AVal
 | .inl x=>.bq [.agg [Nl,Nl,Nl],Iv x.1,Iv x.2]| .inr o=>.bq [Gn n o,Iv 0,Iv 0]
def LR (n:Nat):(Int×Int)⊕Option HV->qi
 | .inl _=>[]| .inr o=>LQ n o
theorem j9r {n i k:Nat}:Hf (n+i) (n+k)=Hf i k:=by
 rw[Bool.eq_iff_iff];simp only[He];omega
theorem j04 {n i:Nat}:Hf (n+i) n=Eh:=by
 rw[Hb];intro h;rw[He]at h;omega
theorem lg0 {n:Nat}{o:Option HV}:(LG n o)[0]?=Eg kO:=by cases o<;>rfl
theorem Gq {n:Nat}{v:AVal}{h:qi}(hv:Abs.below n v=Eh):qp n v h=h:=by
 unfold qp;rw[hv];cases Nat.ble h.length n<;>simp
theorem jyn {H:qi}(hB:qr H.length H=G7){l r}(h:f33 l=Eg r):∃hh,ai pr (X pr) 33 [sl 5 vev l] H=Eg (Gp H.length r,Eh,hh)/\qp H.length (Gp H.length r) hh=H++LR H.length r:=by
 unfold f33 at h;rcases qe h with⟨Y,h⟩|⟨Y,h⟩
 .cases h;refine⟨H++[kO],?_,?_⟩
  .rw[qh (show pr.bn 33=Eg mS from rfl) (by simp)];simp only[go_sem,seval,mS,Y,Eb,E4,kz,ky,ph,rB,yc,lQ,ke,lR,En]<;>rfl
  .rw[show LR H.length (.inl (0,5))=[]from rfl,E8];exact pj rfl rfl hB
 .obtain⟨d,I,h⟩:=qd h
  have w:ai pr (X pr) 16 [] (H++[kO,.hole])=Eg (.agg [Nl,Nl,.az (H.length+3) 0 1],Eh,H++[kO,.hole,kP (H.length+3),.vec 4 0 [aZ]]):=by
   have w:=@jm1 (H++[kO,.hole]);rw[show(H++[kO,.hole]).length=H.length+2 by rw[Eb];rfl,En]at w;exact w
  have wa:qp (H.length+2) (.agg [Nl,Nl,.az (H.length+3) 0 1]) (H++[kO,.hole,kP (H.length+3),.vec 4 0 [aZ]])=H++[kO,.hole,kP (H.length+3),.vec 4 0 [aZ]]:=Gq (by simp[Abs.below,qt,j9r];rfl);have wl:X pr (.loop lS) ⟨[(2,.ptr H.length 0,Eh),(5,.ptr (H.length+1) 0,Eh),(14,sl 5 vev l,Eh),(15,Lv l,Eh),(16,Iv 0,Eh)],H++[kO,kP (H.length+3),kP (H.length+3),.vec 4 0 [aZ]]⟩=Eg (Cq H l d):=zq (jzm hB l) I;rcases d with⟨d1,d2,d3⟩|⟨d1,d2⟩
  .cases h;simp only[Cq]at wl;refine⟨H++LG H.length d3,?_,?_⟩
   .rw[qh (show pr.bn 33=Eg mS from rfl) (by simp)];simp only[go_sem,seval,mS,Y,w,wa,wl,lg0,Eb,E4,kz,ky,ph,rB,yc,lQ,ke,lR,En]<;>rfl
   .rw[show LR H.length (.inl (d1,d2))=[]from rfl,E8];exact pj rfl rfl hB
  .cases h;simp only[Cq]at wl;refine⟨H++LQ H.length d2,?_,?_⟩
   .rw[qh (show pr.bn 33=Eg mS from rfl) (by simp)];rcases d2 with _|v
    .simp only[LG]at wl;simp only[go_sem,seval,mS,Y,w,wa,wl,Gn,LQ,Eb,E4,kz,ky,ph,rB,yc,lQ,ke,lR,En]<;>rfl
    .simp only[LG]at wl;simp only[go_sem,seval,mS,Y,w,wa,wl,Gn,LQ,Eb,E4,kz,ky,ph,rB,yc,lQ,ke,lR,En]<;>rfl
   .refine Gq ?_;cases d2<;>simp[Gp,Gn,Abs.below,qt,j04]
end Go.Z
namespace Go.Z
open Go Go.Abs Go.W
def LO (n:Nat):Option HV->qi
 |none=>[kP (n+3),kP (n+3),kP (n+3),.vec 4 0 [aZ],kP (n+3)]|some v=>[kV v (n+6) (n+4) (n+3),kV v (n+6) (n+4) (n+3),kP (n+3),.vec 4 v.vs (v.ss.map ju),.vec 5 v.vc (v.cs.map vev),.hole,.vec 5 v.ve (v.ev.map vev),kV v (n+6) (n+4) (n+3)]
def pO (n:Nat):Option HV->Nat
 |none=>n+4|some _=>n+7
def f11 (t:aj):Option (Int×Option (Option HV)):=
 qc (f32 t) fun r=>
 cond (decide (r.2.2=0)||decide (r.2.2=29))
  (qc (f33 r.1) fun d=>match d with
   | .inl x=>cond (decide (x.2=0)) E3 (Eg (x.2,E3))
   | .inr o=>Eg (0,Eg o))
  (Eg (r.2.2,E3))
theorem juv {H:qi}(hB:qr H.length H=G7){t q}(h:f11 t=Eg q):∃hh,ai aB (X aB) 11 [.str t] H=Eg (.bq [(match q.2 with|none=>.cC|some o=>.ptr (pO H.length o) 0),Iv q.1],Eh,hh)/\(match q.2 with|none=>∃L,hh=H++L|some o=>hh=H++LO H.length o):=by
 unfold f11 at h;obtain⟨r,k1,h⟩:=qd h;have w1:=W32 k1
 have fin:∀(b1 b2:Bool),decide (r.2.2=0)=b1->decide (r.2.2=29)=b2->(b1||b2)=G7->∀d,f33 r.1=Eg d->(match d with
   | .inl x=>cond (decide (x.2=0)) E3 (Eg (x.2,E3))
   | .inr o=>Eg (0,Eg o))=Eg q->∃hh,ai aB (X aB) 11 [.str t] H=Eg (.bq [(match q.2 with|none=>.cC|some o=>.ptr (pO H.length o) 0),Iv q.1],Eh,hh)/\(match q.2 with|none=>∃L,hh=H++L|some o=>hh=H++LO H.length o):=by
  intro b1 b2 Y I h3 d k2 h;obtain⟨hh,w2,wa⟩:=jyn hB k2;have w2:=aF.ai w2;rcases d with x|o
  .rcases qe h with⟨h4,h⟩|⟨h4,h⟩
   .cases h
   .cases h;simp only[Gp,LR,E8]at w2 wa;refine⟨H,?_,[],(E8 _).symm⟩;rw[qh (show aB.bn 11=Eg wX from rfl) (by simp)]
    cases b1<;>cases b2<;>first|exact absurd h3 G5|(simp only[go_sem,seval,wX,w1,Y,I,w2,wa,h4,Eb,E4,kz,ky,ph,rB,yc,lQ,ke,lR,En]<;>rfl)
  .cases h;rcases o with _|v
   .simp only[Gp,Gn,LR,LQ]at w2 wa;refine⟨H++LO H.length E3,?_,rfl⟩;rw[qh (show aB.bn 11=Eg wX from rfl) (by simp)]
    cases b1<;>cases b2<;>first|exact absurd h3 G5|(simp only[go_sem,seval,wX,w1,Y,I,w2,wa,LO,pO,Eb,E4,kz,ky,ph,rB,yc,lQ,ke,lR,En]<;>rfl)
   .simp only[Gp,Gn,LR,LQ]at w2 wa;refine⟨H++LO H.length (Eg v),?_,rfl⟩;rw[qh (show aB.bn 11=Eg wX from rfl) (by simp)]
    cases b1<;>cases b2<;>first|exact absurd h3 G5|(simp only[go_sem,seval,wX,w1,Y,I,w2,wa,LO,pO,Eb,E4,kz,ky,ph,rB,yc,lQ,ke,lR,En]<;>rfl)
 rcases qe h with⟨h3,h⟩|⟨h3,h⟩
 .obtain⟨d,k2,h⟩:=qd h;exact fin _ _ rfl rfl h3 d k2 h
 .cases h;refine⟨H,?_,[],(E8 _).symm⟩;rw[Bool.or_eq_false_iff]at h3;have Y:=h3.1;have I:=h3.2;rw[qh (show aB.bn 11=Eg wX from rfl) (by simp)];simp only[go_sem,seval,wX,w1,Y,I,Eb,E4]<;>rfl
theorem q95 {H:qi}(hB:qr H.length H=G7)(o:Option HV):qr (H++LO H.length o).length (H++LO H.length o)=G7:=by
 refine grown hB ?_;rw[Eb]
 cases o with
 |none=>simp[LO,qr,ze,zn,qP];rfl|some v=>simp[LO,qr,ze,zn,qP];rfl
def SS.open (H:qi)(o:Option HV):SS:=⟨H++LO H.length o,pO H.length o,H.length+6,H.length+4,H.length+3,o⟩
theorem SS.wY {H:qi}(hB:qr H.length H=G7)(o:Option HV):(SS.open H o).ok:=by
 cases o with
 |none=>
  have D:D2 (H++LO H.length E3) (H.length+4) (H.length+3):=by
   constructor<;>first|omega|(rw[Eb];simp[LO])
  exact(⟨D,(yc _ 4),(yc _ 3),q95 hB E3⟩:eM (H++LO H.length E3) (H.length+4) (H.length+3))
 |some s=>
  have D:D4 (H++LO H.length (Eg s)) (H.length+7) (H.length+6) (H.length+4) (H.length+3):=by
   constructor<;>first|omega|(rw[Eb];simp[LO])
  exact(⟨D,(yc _ 7),(yc _ 6),(yc _ 4),(yc _ 3),q95 hB _⟩:iA (H++LO H.length (Eg s)) (H.length+7) (H.length+6) (H.length+4) (H.length+3) s)
end Go.Z
namespace Go.Z
open Go Go.Abs Go.W
theorem q8x {n:Nat}{v:AVal}{x:bG}{h:qi}{i:Nat}(hi:h[i]?=Eg x)(hn:i<n)(M:ze n x=Eh):qp n v h=h:=by
 unfold qp
 have ht:(h.take n)[i]?=Eg x:=by rw[G4,if_pos hn];exact hi
 rw[JW M ht,Bool.and_false];cases Nat.ble h.length n<;>rfl
theorem DoG {H:qi}{p:Nat}{e0 x1 x2:AVal×Bool}{o:Option HV}{aae:Option HV->qi}(hp:qy H p=Eg [e0,x1,x2])(hl:∀h,um 1 h (Eg e0.1)=Eg ⟨Iv (((fK o).length:Nat):Int),Eh,E3,h⟩)(hB:qr H.length H=G7)
  (dE:∀r,Nu o=Eg r->∃L,ai aB (X aB) 36 [.ptr p 0] (H++[fm])=Eg (aR r,Eh,(H++[fm])++L))
  (wG:∀e q,qZ o e=Eg q->∃hh,ai aB (X aB) 25 [.ptr p 0,aE e] (H++[fm,iK])=Eg (Iv q.1,Eh,hh)/\qp (H.length+2) (Iv q.1) hh=aae q.2)
  {line:aj} {q} (h:mR o line=Eg q):∃hh,ai aB (X aB) 8 [.ptr p 0,.str line] H=Eg (.bq [.str q.1,Iv q.2.1],Eh,hh)/\((q.2.2=o/\∃L,hh=H++L)\/(hh=aae q.2.2/\∃e y,qZ o e=Eg y/\y.2=q.2.2)):=by
 unfold mR at h;obtain⟨e1,k1,h⟩:=qd h;obtain⟨e2,k2,h⟩:=qd h;obtain⟨e3,k3,h⟩:=qd h;rcases qe h with⟨h3,h⟩|⟨h3,h⟩
 .obtain⟨l,k4,h⟩:=qd h;obtain⟨w,k5,h⟩:=qd h
  cases kq:lA w with
  |some f=>
   rw[kq]at h;obtain⟨r,Q,h⟩:=qd h;obtain⟨a,ka,h⟩:=qd h;cases h;obtain⟨L,hn⟩:=dE r Q;exact⟨_,jpa k1 k2 k3 h3 k4 k5 kq hn (grown hB jdi) ka,.inl ⟨rfl,_,rfl⟩⟩
  |none=>
   rw[kq]at h;rcases qe h with⟨kf,h⟩|⟨kf,h⟩
   .obtain⟨x,k6,h⟩:=qd h;obtain⟨e4,k7,h⟩:=qd h;obtain⟨e5,k8,h⟩:=qd h;obtain⟨e6,k9,h⟩:=qd h;rcases qe h with⟨h6,h⟩|⟨h6,h⟩
    .obtain⟨c,zN,h⟩:=qd h;rcases qe h with⟨hc,h⟩|⟨hc,h⟩
     .obtain⟨y,hy,h⟩:=qd h;obtain⟨hh,ka,kw⟩:=wG x.1 y hy;rcases qe h with⟨hq,h⟩|⟨hq,h⟩
      .obtain⟨s,VX,h⟩:=qd h;obtain⟨t,VY,h⟩:=qd h;cases h;exact⟨_,jpk k1 k2 k3 h3 k4 k5 hp hl kq kf k6 k7 k8 k9 h6 zN hc ka kw hq VX VY,.inr ⟨rfl,_,_,hy,rfl⟩⟩
      .cases h;exact⟨_,js7 k1 k2 k3 h3 k4 k5 hp hl kq kf k6 k7 k8 k9 h6 zN hc ka kw hq,.inr ⟨rfl,_,_,hy,rfl⟩⟩
     .cases h;exact⟨_,jll k1 k2 k3 h3 k4 k5 hp hl kq kf k6 k7 k8 k9 h6 zN hc,.inl ⟨rfl,_,rfl⟩⟩
    .cases h;exact⟨_,jlv k1 k2 k3 h3 k4 k5 hp hl kq kf k6 k7 k8 k9 h6,.inl ⟨rfl,_,rfl⟩⟩
   .cases h;exact⟨_,jo5 k1 k2 k3 h3 k4 k5 kq kf,.inl ⟨rfl,_,rfl⟩⟩
 .cases h;exact⟨_,juw k1 k2 k3 h3,.inl ⟨rfl,[],(E8 _).symm⟩⟩
theorem Cr {S:SS}(hS:S.ok){line:aj}{q}(h:mR S.v line=Eg q):∃hh,ai aB (X aB) 8 [.ptr S.p 0,.str line] S.H=Eg (.bq [.str q.1,Iv q.2.1],Eh,hh)/\qp S.H.length (.bq [.str q.1,Iv q.2.1]) hh=(S.next q.2.2).H/\(S.next q.2.2).ok/\(S.next q.2.2).v=q.2.2/\(S.next q.2.2).p=S.p:=by
 obtain⟨H,p,a,b,c,v⟩:=S
 have pz:∀n,Abs.below n (.bq [.str q.1,Iv q.2.1])=G7:=fun n=>by simp only[go_sem,seval]
 cases v with
 |none=>
  have V:eM H p c:=hS;have s2:eM (H++[fm,iK]) p c:=V.app V0
  have en:(H++[fm,iK]).length=H.length+2:=by rw[Eb];rfl
  obtain⟨hh,w1,w2⟩:=DoG (H:=H) (p:=p) (o:=none) (aae:=fun o=>match o with
    |none=>H++[fm,iK]
    |some v=>rD (H++[fm,iK]) p c v) (zJ V.hp) (fun h=>rfl) V.kK
   (fun r Q=>by
    cases Q
    exact⟨_,aF.ai (N6 (x0:=(Nl,Eh)) (x1:=(Nl,Eh)) (vs:=0) (ls:=1) (ss:=[dl]) (r:=dl) (Ce (zJ V.hp) _) (oq V.hc _) rfl)⟩)
   (fun e y hy=>by
    obtain⟨hh,g1,g2⟩:=jh2 s2.d s2.kK (e:=e) (q:=y) hy;rw[s2.eq]at g1 g2;rw[en]at g2;refine⟨hh,aF.ai g1,?_⟩;rw[g2]
    cases y.2<;>rfl) h
  refine⟨hh,w1,?_⟩;rcases w2 with⟨e1,L,rfl⟩|⟨rfl,e,y,hy,V6⟩
  .rw[e1];exact⟨pj rfl (pz _) V.kK,V,rfl,rfl⟩
  .cases hq:q.2.2 with
   |none=>exact⟨pj rfl (pz _) V.kK,V,rfl,rfl⟩
   |some v=>
    have hf:=iA.first (s:=v) s2.d s2.kK;rw[en]at hf;refine⟨?_,hf,rfl,rfl⟩;refine q8x hf.hp V.d.lp ?_;simp[ze,zn,qP];omega
 |some s=>
  have V:iA H p a b c s:=hS;have s2:iA (H++[fm,iK]) p a b c s:=V.app V0
  have en:(H++[fm,iK]).length=H.length+2:=by rw[Eb];rfl
  obtain⟨hh,w1,w2⟩:=DoG (H:=H) (p:=p) (o:=Eg s) (aae:=fun o=>match o with
    |none=>H
    |some v=>sH (H++[fm,iK]) p a b c v) (zJ V.hp) (fun h=>rfl) V.kK
   (fun r Q=>⟨_,aF.ai (N6 (x0:=(.az a s.ve s.ev.length,Eh)) (x1:=(.az b s.vc s.lc,Eh)) (vs:=s.vs) (ls:=s.ls) (ss:=s.ss) (r:=r) (Ce (zJ V.hp) _) (oq V.hc _) Q)⟩)
   (fun e y hy=>by
    obtain⟨z,hz,hy⟩:=qd hy;cases hy;obtain⟨hh,g1,g2⟩:=jm0 s2.d s2.kK (e:=e) (q:=z) hz;rw[show cK (H++[fm,iK]) p a b c (kV s a b c) (.vec 5 s.ve (s.ev.map vev)) (.vec 5 s.vc (s.cs.map vev)) (.vec 4 s.vs (s.ss.map ju))=H++[fm,iK]from s2.eq]at g1;rw[en]at g2
    exact⟨hh,aF.ai g1,g2⟩) h
  refine⟨hh,w1,?_⟩;rcases w2 with⟨e1,L,rfl⟩|⟨rfl,e,y,hy,V6⟩
  .rw[e1];refine⟨?_,?_,rfl,rfl⟩
   .show qp H.length _ (H++L)=sH H p a b c s;rw[V.eq];exact pj rfl (pz _) V.kK
   .exact iA.gZ V.d V.kK
  .cases hq:q.2.2 with
   |none=>
    exfalso;obtain⟨z,hz,hy⟩:=qd hy;cases hy;rw[hq]at V6;cases V6
   |some v=>
    refine⟨?_,iA.gZ V.d V.kK,rfl,rfl⟩;show qp H.length _ (sH (H++[fm,iK]) p a b c v)=sH H p a b c v;rw[show sH (H++[fm,iK]) p a b c v=sH H p a b c v++[fm,iK]from jqh V.d];exact pj J7 (pz _) (JS V.kK (F9 V.d.la V.d.lb V.d.lc) rfl rfl rfl)
end Go.Z
namespace Go.Z
open Go Go.Abs Go.W
def J9 (S:SS):Bool:=@decide S.ok (Classical.propDecidable _)
theorem Gr {S:SS}:J9 S=G7↔S.ok:=by unfold J9;simp
theorem Oj {S:SS}(hS:S.ok)(o:Option HV){e:Env}:gc S.H.length ⟨e,(S.next o).H⟩=⟨e,(S.next o).H⟩:=by
 obtain⟨H,p,a,b,c,v⟩:=S
 cases v with
 |none=>
  have V:eM H p c:=hS
  cases o with
  |none=>exact yv (G0 _)
  |some v=>
   have s2:eM (H++[fm,iK]) p c:=V.app V0
   have en:(H++[fm,iK]).length=H.length+2:=by rw[Eb];rfl
   have hf:=iA.first (s:=v) s2.d s2.kK;rw[en]at hf;refine V5 ?_
   have hg:((rD (H++[fm,iK]) p c v).take H.length)[p]?=Eg (kV v (H.length+4) (H.length+2) c):=by
    rw[G4,if_pos V.d.lp];exact hf.hp
   refine JW ?_ hg;simp[ze,zn,qP];omega
 |some s=>
  cases o with
  |none=>exact yv (G0 _)|some v=>exact yv (Nat.le_of_eq J7)
end Go.Z
namespace Go.Z
open Go Go.Abs Go.W
def evF:Option HV->Option (ak GEv×Bool)
 |none=>Eg (E3,Eh)|some s=>Gd s.ev
def Cs:Option HV->Option aj
 |none=>Eg []|some s=>f10 s.ev
theorem jpw {S:SS}(hS:S.ok){r}(h:evF S.v=Eg r):ai aB (X aB) 12 [.ptr S.p 0] S.H=Eg (sl 5 vev r.1,r.2,S.H):=by
 obtain⟨H,p,a,b,c,v⟩:=S
 cases v with
 |none=>
  have V:eM H p c:=hS;cases h;exact aF.ai (jib (zJ V.hp))
 |some s=>
  have V:iA H p a b c s:=hS;exact aF.ai (ji6 (zJ V.hp) V.ha V.kK h)
theorem Ka {S:SS}(hS:S.ok){t}(h:Cs S.v=Eg t):ai aB (X aB) 10 [.ptr S.p 0] S.H=Eg (.str t,Eh,S.H):=by
 obtain⟨H,p,a,b,c,v⟩:=S
 cases v with
 |none=>
  have V:eM H p c:=hS;cases h;exact jzw (zJ V.hp)
 |some s=>
  have V:iA H p a b c s:=hS;exact j03 (zJ V.hp) V.ha h
end Go.Z
namespace Go.Z
open Go Go.Abs Go.W
def SS.at (A:SS)(H:qi):SS:={ A with H:=H }
theorem jfb {S:SS}(hS:S.ok):S.next S.v=S:=by
 obtain⟨H,p,a,b,c,v⟩:=S
 cases v with
 |none=>rfl
 |some s=>
  have V:iA H p a b c s:=hS;show SS.mk (sH H p a b c s) p a b c (Eg s)=_;rw[V.eq]
theorem SS.lB {S:SS}(hS:S.ok):qr S.H.length S.H=G7:=by
 obtain⟨H,p,a,b,c,v⟩:=S
 cases v with
 |none=>exact(show eM H p c from hS).kK|some s=>exact(show iA H p a b c s from hS).kK
theorem SS.move {A:SS}{H H':qi}(h:(A.at H).ok)(hb:qr H'.length H'=G7)(hl:H.length<=H'.length)(hp:H'[A.p]?=H[A.p]?)(hc:H'[A.c]?=H[A.c]?)(lY:A.v≠E3->H'[A.a]?=H[A.a]?/\H'[A.b]?=H[A.b]?):(A.at H').ok:=by
 obtain⟨HH,p,a,b,c,v⟩:=A;have hp:H'[p]?=H[p]?:=hp;have hc:H'[c]?=H[c]?:=hc
 cases v with
 |none=>
  have V:eM H p c:=h;exact(⟨⟨Ha V.d.lp hl,Ha V.d.lc hl,V.d.pc⟩,hp.trans V.hp,hc.trans V.hc,hb⟩:eM H' p c)
 |some s=>
  have V:iA H p a b c s:=h;obtain⟨ha,fq⟩:H'[a]?=H[a]?/\H'[b]?=H[b]?:=lY (by simp);obtain⟨Y,I,h3,h4,h5,h6,h7,h8,h9,ep⟩:=V.d;exact(⟨⟨by omega,by omega,by omega,by omega,h5,h6,h7,h8,h9,ep⟩,hp.trans V.hp,ha.trans V.ha,fq.trans V.hb,hc.trans V.hc,hb⟩:iA H' p a b c s)
structure Sep (n0 n1:Nat)(S A:SS):Prop where
 ok:S.ok
 V7:(A.at S.H).ok
 n:n1<=S.H.length
 p:S.p<n0\/n1<=S.p
 c:S.c<n0\/n1<=S.c
 ab:S.v≠E3->(S.a<n0\/n1<=S.a)/\(S.b<n0\/n1<=S.b)
 ap:n0<=A.p/\A.p<n1
 ac:n0<=A.c/\A.c<n1
 aab:A.v≠E3->(n0<=A.a/\A.a<n1)/\(n0<=A.b/\A.b<n1)
theorem Sep.get {n0 n1:Nat}{S A:SS}(h:Sep n0 n1 S A)(o:Option HV){i:Nat}(h0:n0<=i)(Y:i<n1):(S.next o).H[i]?=S.H[i]?:=by
 have hn:=h.n;have hp:=h.p;have hc:=h.c;have lY:=h.ab;clear h;obtain⟨H,p,a,b,c,v⟩:=S;simp only[]at hn hp hc lY
 cases v with
 |none=>
  cases o with
  |none=>rfl
  |some s=>
   show(rD (H++[fm,iK]) p c s)[i]?=H[i]?;unfold rD;rw[E9 (by rw[pV,Eb];omega)];unfold dU;rw[Ep (by omega),Ep (by omega),E9 (by omega)]
 |some x=>
  obtain⟨ha,hb⟩:=lY (by simp)
  cases o with
  |none=>rfl
  |some s=>
   show(sH H p a b c s)[i]?=H[i]?;unfold sH cK;rw[Ep (by omega),Ep (by omega),Ep (by omega),Ep (by omega)]
theorem q7w {S:SS}(o:Option HV):S.H.length<=(S.next o).H.length:=by
 obtain⟨H,p,a,b,c,v⟩:=S
 cases v with
 |none=>
  cases o with
  |none=>exact G0 _
  |some s=>
   show H.length<=(rD (H++[fm,iK]) p c s).length;unfold rD;rw[Eb,pV,Eb];omega
 |some x=>
  cases o with
  |none=>exact G0 _
  |some s=>
   show H.length<=(sH H p a b c s).length;rw[show(sH H p a b c s).length=H.length from J7];exact G0 _
theorem Sep.next {n0 n1:Nat}{S A:SS}(h:Sep n0 n1 S A){o:Option HV}(hn:(S.next o).ok):Sep n0 n1 (S.next o) A where
 ok:=hn
 V7:=SS.move h.V7 (SS.lB hn) (q7w o) (h.get o h.ap.1 h.ap.2) (h.get o h.ac.1 h.ac.2) fun hv=>⟨h.get o (h.aab hv).1.1 (h.aab hv).1.2,h.get o (h.aab hv).2.1 (h.aab hv).2.2⟩
 n:=Nat.le_trans h.n (q7w o)
 p:=by
  have:=h.p;obtain⟨H,p,a,b,c,v⟩:=S;cases v<;>cases o<;>exact this
 c:=by
  have:=h.c;obtain⟨H,p,a,b,c,v⟩:=S;cases v<;>cases o<;>exact this
 ab:=by
  have hl:=h.n;have lY:=h.ab;obtain⟨H,p,a,b,c,v⟩:=S;simp only[]at hl lY
  cases v with
  |none=>
   cases o with
   |none=>exact fun hv=>absurd rfl hv
   |some s=>exact fun _=>⟨.inr (by show n1<=H.length+4;omega),.inr (by show n1<=H.length+2;omega)⟩
  |some x=>
   cases o with
   |none=>exact fun hv=>lY (by simp)
   |some s=>exact fun _=>lY (by simp)
 ap:=h.ap
 ac:=h.ac
 aab:=h.aab
theorem SS.low {S:SS}(hS:S.ok):S.p<S.H.length/\S.c<S.H.length/\(S.v≠E3->S.a<S.H.length/\S.b<S.H.length):=by
 obtain⟨H,p,a,b,c,v⟩:=S
 cases v with
 |none=>
  have V:eM H p c:=hS;exact⟨V.d.lp,V.d.lc,fun h=>absurd rfl h⟩
 |some s=>
  have V:iA H p a b c s:=hS;exact⟨V.d.lp,V.d.lc,fun _=>⟨V.d.la,V.d.lb⟩⟩
theorem Sep.behind {S:SS}(hS:S.ok)(o:Option HV):Sep 0 S.H.length (SS.open S.H o) S:=by
 have k2:(SS.open S.H o).ok:=SS.wY (SS.lB hS) o;have hl:(SS.open S.H o).H.length=S.H.length+(LO S.H.length o).length:=Eb;have hg:∀i,i<S.H.length->(SS.open S.H o).H[i]?=S.H[i]?:=fun i hi=>E9 hi;obtain⟨l1,l2,l3⟩:=SS.low hS
 exact
  ⟨k2,SS.move (A:=S) (H:=S.H) hS (SS.lB k2) (by rw[hl];omega) (hg _ l1) (hg _ l2) fun hv=>⟨hg _ (l3 hv).1,hg _ (l3 hv).2⟩,by rw[hl];omega,
   .inr (by cases o<;>exact G1 _ _),.inr (by cases o<;>exact G1 _ _),fun _=>⟨.inr (G1 _ _),.inr (G1 _ _)⟩,
   ⟨G8 _,l1⟩,⟨G8 _,l2⟩,fun hv=>⟨⟨G8 _,(l3 hv).1⟩,⟨G8 _,(l3 hv).2⟩⟩⟩
end Go.Z
namespace Go.Z
open Go Go.Abs Go.W
def f9 (O:GEv):Option aj:=
 qc (f27 O) fun v1=>
 qc (f28 O.number) fun v3=>
 qc (jN v1 (Eg (qf .i64 ((v3.length:Int)+1))) E3) fun v5=>
 Eg v5
theorem W9 {O:GEv}{r}(h:f9 O=Eg r):ae pr (X pr) 9 [.agg [.int .i64 O.number,.str O.kind,sl 1 jf O.names,sl 1 zg O.values,.str O.text]]=Eg (.str r,Eh):=by
 unfold f9 at h;obtain⟨v1,I,h⟩:=qd h;have iY:ae pr (X pr) 27 [.agg [.int .i64 O.number,.str O.kind,sl 1 jf O.names,sl 1 zg O.values,.str O.text]]=Eg (.str v1,Eh):=W27 I;obtain⟨v3,h4,h⟩:=qd h;have wZ:ae pr (X pr) 28 [.int .i64 O.number]=Eg (.str v3,Eh):=U3 h4;obtain⟨v5,h6,h⟩:=qd h;have Q:v5=r:=Eg.inj h;subst Q
 have this:∃hh,ai pr (X pr) 9 [.agg [.int .i64 O.number,.str O.kind,sl 1 jf O.names,sl 1 zg O.values,.str O.text]] []=Eg (.str v5,Eh,hh):=by
  rw[qh (show pr.bn 9=Eg c9 from rfl) (by simp)];simp only[go_sem,seval,c9,iY,wZ,vb h6];exact⟨_,rfl⟩
 obtain⟨hh,this⟩:=this;exact jo rfl this (by first|rfl|simp only[go_sem,seval]) (by first|rfl|simp only[go_sem,seval])
end Go.Z
namespace Go.Z
open Go Go.Abs Go.W
theorem jtd {O:GEv}{r}(h:f9 O=Eg r):ae aB (X aB) 9 [aE O]=Eg (.str r,Eh):=aF.ae (W9 h)
section
variable (O:ak GEv)(J:G3)(log:aj)(ends:ak Int)(w:Bool)(q:Nat)
end
def jub (h:qi):Option AVal->Option br
 |some (.list _ 1 xs)=>(match ED xs with
  |some s=>val h (.str s)
  |none=>E3)
 |_=>E3
@[go_sem] theorem j22 {h:qi}{b:Bool}{n:Int}:jub h (Eg (.list b 1 [.int .u8 n]))=Eg ⟨.str [UInt8.ofNat n.toNat],Eh,E3,h⟩:=rfl
@[go_sem] theorem j0i {n h b o}:IK 1 n h (Eg (.ptr b o))=Eg ⟨.bool n,Eh,E3,h⟩:=by cases n<;>rfl
end Go.Z
namespace Go.Z
open Go Go.Abs Go.W
theorem jr4 {n k:Nat}:Hf (n+k) n=Eh:=by
 rw[Hb];intro h;have:=He.mp h;omega
end Go.Z
namespace Go.Z
open Go Go.Abs Go.W
theorem j69 {O:ak GEv}{J:Int}{r}(h:f4 O J=Eg r):ae aB (X aB) 4 [sl 5 vev O,.int .i64 J]=Eg (.bool r,Eh):=aF.ae (W4 h)
end Go.Z
namespace Go.Z
open Go Go.Abs Go.W
structure ShE (e:GEv):Prop where
 k:e.kind.length<=40
 n:(e.names.getD []).length<=6
 v:(e.values.getD []).length<=8
 s:∀x∈e.names.getD [],x.length<=40
theorem Ct:∀ {l:List aj},(∀w∈l,w.length<=40)->(Lib.joinTail [32] l).length<=l.length*41
 | [],_=>by simp[Lib.joinTail]
 |x::l,h=>by
  have Y:=h x (List.mem_cons_self ..);have I:=Ct fun w hw=>h w (List.mem_cons_of_mem _ hw);rw[F3];simp only[Eb,Hd,List.length_nil];omega
theorem Gs {v:Int}(h0:0<=v)(Y:v<1000000000):(Lib.itoa v).length<=40:=by
 rw[zH h0];have:=F1 8 v.toNat (by omega);omega
theorem jhq {e:GEv}(s:ShE e)(h:jb e.er=0):OkE e/\(yo e.er).length<=900000:=by
 obtain⟨Y,I,_,_,h5,_⟩:=tj h;have h5:∀v∈e.values.getD [],0<=v/\v<1000000000:=fun v hv=>⟨(h5 v hv).1,by have:=(h5 v hv).2;omega⟩;have Y:1<=e.number:=Y;have I:e.number<=1000:=I;have ha:=s.n;have hb:=s.v;have hk:=s.k
 have hlb:(kj e.er).length<=10000:=by
  rw[NZ];have l1:=Ct (l:=e.names.getD []) s.s
  have l2:=Ct (l:=(e.values.getD []).map Lib.itoa) fun w hw=>by
   obtain⟨v,hv,rfl⟩:=List.mem_map.1 hw;exact Gs (h5 v hv).1 (h5 v hv).2
  have l3:=Gs (v:=e.number) (by omega) (by omega);rw[List.length_map]at l2;simp only[Eb,List.length_singleton];show(Lib.itoa e.number).length+1+e.kind.length+(Lib.joinTail [32] (e.names.getD [])).length+(Lib.joinTail [32] ((e.values.getD []).map Lib.itoa)).length<=10000;omega
 refine⟨⟨⟨by omega,by omega⟩,h5,by omega,by omega,by omega⟩,?_⟩;have:=JM e.er;omega
theorem jgn:∀ {l:List cf} {e},e∈l->(yo e).length<=(zj l).length
 |x::l,e,h=>by
  rw[zj,Eb,Hd];rcases Hg.1 h with rfl|h
  .omega
  .have:=jgn h;omega
theorem q3d:∀ {l:List cf} {k e},kJ k l->e∈l->jb e=0
 |x::l,k,e,h,hm=>by
  rcases Hg.1 hm with rfl|hm
  .exact h.1
  .exact q3d h.2.2 hm
theorem jog {s:aj}(G:s.length<=90000){e:GEv}(h:e.er∈(mP s).1):OkE e:=by
 obtain⟨hc,Y,I⟩:=q7h s;have hk:=q3d hc h;have Q:=jgn h;obtain⟨l,q1,q2,q3,t,q4,q5⟩:=qx7 (s:=s) (a:=0) (out:=[]);have q1':(mP s).1=l:=q1;have q6:=congrArg List.length q4;simp only[Eb]at q6;rw[q1']at Q;have:=JM e.er;obtain⟨n1,n2,⟨f,f1,f2,mT⟩,_,n5,_⟩:=tj hk;have hf:=VB f1;have f2:(e.names.getD []).length=f.1:=f2;have mT:(e.values.getD []).length=f.2:=mT;have n1:1<=e.number:=n1;have n2:e.number<=1000:=n2;exact⟨⟨by omega,by omega⟩,fun v hv=>⟨(n5 v hv).1,by have:=(n5 v hv).2;omega⟩,by omega,by omega,by omega⟩
theorem jk7 {t w}(h:VD t w){e:GEv}(he:e∈t.1.getD []):e.er∈w.1:=by
 rw[<-h.1];exact List.mem_map_of_mem he
end Go.Z
end
