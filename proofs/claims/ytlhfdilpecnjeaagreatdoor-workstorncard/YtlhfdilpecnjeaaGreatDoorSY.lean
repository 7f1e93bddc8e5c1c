/- A session's history made anew and replayed, in any heap. -/
import Derived.Test.YtlhfdilpecnjeaaGreatDoorSX
set_option linter.unusedVariables false
set_option linter.unusedSimpArgs false
set_option maxRecDepth 100000
set_option maxHeartbeats 4000000
noncomputable section
open List renaming length_append->En,append_assoc->Hb,getElem?_set_ne->Hc,append_nil->H4,getElem?_append_left->H8,getElem?_take->Ia
open Option renaming some->E6,none->H3
open Bool renaming false->Ha,false_ne_true->Ib,true->Ic
open Nat renaming add_zero->H2,le_refl->H9,lt_of_lt_of_le->If,zero_lt_succ->Ig
namespace Go.Z
open Go Go.Abs Go.W
def LG (n:Nat):Option HV->qf
 |none=>[kO,kP (n+3),kP (n+3),.vec 4 0 [aZ]]|some v=>[kO,kV v (n+6) (n+4) (n+3),kP (n+3),.vec 4 v.vs (v.ss.map z6),.vec 5 v.vc (v.cs.map vev),.hole,.vec 5 v.ve (v.ev.map vev)]
theorem jxs {H:qf}{e:Env}(he:yi e 4 [(0,.tmp 1)]=E6 [(0,aZ)]):qe pr (X pr) (H.length+1) H3 e (H++[kO,.hole]) (.gd 0 4 1 [Iv 0,Nl,Nl,Nl] [(0,.tmp 1)])=E6 ⟨.ay (H.length+1) 0 1,Ha,H3,H++[kO,.vec 4 0 [aZ]]⟩:=by
 have nb:aO (H.length+1) (H++[kO,.hole]) 0 (.vec 4 0 [aZ])=E6 (H++[kO,.vec 4 0 [aZ]]):=by
  unfold aO;rw[show H.length+1+0=H.length+1 from rfl,yx,iF];rfl
 have M:∀ps,ps=E6 [(0,aZ)]->(match ps with
  |some ps=>match l6 (List.replicate 1 (bif Nat.beq 4 1 then([Iv 0,Nl,Nl,Nl]:List AVal).headD .undef else .agg [Iv 0,Nl,Nl,Nl])) ps with
   |some xs=>bif qo 0 xs then(match aO (H.length+1) (H++[kO,.hole]) 0 (.vec 4 0 xs)with
    |some h'=>val h' (.ay (H.length+1+0) 0 xs.length)
    |none=>H3)else H3
   |none=>H3
  |none=>H3)=E6 ⟨.ay (H.length+1) 0 1,Ha,H3,H++[kO,.vec 4 0 [aZ]]⟩:=by
  intro ps hp;subst hp
  show(match aO (H.length+1) (H++[kO,.hole]) 0 (.vec 4 0 [aZ])with
    |some h'=>val h' (.ay (H.length+1+0) 0 1)
    |none=>H3)=_
  rw[nb];rfl
 exact M _ he
theorem j9i {H:qf}:ai pr (X pr) 55 [] H=E6 (.agg [Nl,Nl,.ay (H.length+1) 0 1],Ha,H++[kP (H.length+1),.vec 4 0 [aZ]]):=by
 have v:=@jxs H [(1,aZ,Ha),(0,.ptr H.length 0,Ha)] rfl;rw[qg (show pr.br 55=E6 Zr from rfl) (by simp)];simp only[go_sem,seval,Zr,v,En,H2,gF,gG,rW,vK,yx,oA,iF,nM,Hb]
theorem jb3 {H:qf}(hB:qr H.length H=Ic)(o:Option HV):qr (H++LG H.length o).length (H++LG H.length o)=Ic:=by
 refine grown hB ?_;rw[En]
 cases o with
 |none=>simp[LG,qr,zn,zw,vj];rfl|some v=>simp[LG,qr,zn,zw,vj];rfl
theorem j4p {H:qf}(hB:qr H.length H=Ic){o:Option HV}{e:GEv}{q}(h:tA o e=E6 q):∃hh,ai pr (X pr) 42 [.ptr (H.length+1) 0,aE e] (H++LG H.length o)=E6 (Iv q.1,Ha,hh)/\qy (H++LG H.length o).length (Iv q.1) hh=H++LG H.length q.2:=by
 cases o with
 |none=>
  have D:D2 (H++LG H.length H3) (H.length+1) (H.length+3):=by
   constructor<;>first|omega|(rw[En];simp[LG])
  have S:fC (H++LG H.length H3) (H.length+1) (H.length+3):=⟨D,(yx _ 1),(yx _ 3),jb3 hB H3⟩;obtain⟨hh,g1,g2⟩:=jja D S.lX (e:=e) (q:=q) h;rw[S.eq]at g1 g2;refine⟨hh,g1,?_⟩;rw[g2]
  cases q.2 with
  |none=>rfl
  |some v=>
   show dV (H++LG H.length H3) _ _ _ _++_=_;rw[show(H++LG H.length H3).length=H.length+4 by rw[En];rfl];unfold dV;rw[iF,iF,Hb];rfl
 |some s=>
  have D:D4 (H++LG H.length (E6 s)) (H.length+1) (H.length+6) (H.length+4) (H.length+3):=by
   constructor<;>first|omega|(rw[En];simp[LG])
  have S:jH (H++LG H.length (E6 s)) (H.length+1) (H.length+6) (H.length+4) (H.length+3) s:=⟨D,(yx _ 1),(yx _ 6),(yx _ 4),(yx _ 3),jb3 hB _⟩;obtain⟨z,hz,hy⟩:=qb h;cases hy;obtain⟨hh,g1,g2⟩:=jrn D S.lX (e:=e) (q:=z) hz;rw[show cL (H++LG H.length (E6 s)) _ _ _ _ (kV s _ _ _) (.vec 5 s.ve (s.ev.map vev)) (.vec 5 s.vc (s.cs.map vev)) (.vec 4 s.vs (s.ss.map z6))=H++LG H.length (E6 s)from S.eq]at g1;refine⟨hh,g1,?_⟩;rw[g2];unfold cL;rw[iF,iF,iF,iF];rfl
theorem Zs {n:Nat}{o:Option HV}:0<(LG n o).length:=by cases o<;>exact Ig _
theorem Zt {n:Nat}{o:Option HV}:1<(LG n o).length:=by cases o<;>exact Nat.succ_lt_succ (Ig _)
theorem Zu {H:qf}{o:Option HV}:qw (H++LG H.length o) H.length=E6 [(Nl,Ha),(Nl,Ha),(Nl,Ha)]:=by
 rw[vK];cases o<;>rfl
theorem Zv {H:qf}{o:Option HV}:(H++LG H.length o).set H.length kO=H++LG H.length o:=by
 rw[nM];cases o<;>rfl
theorem zd3 {H:qf}(o o':Option HV){e:Env}:gc (H++LG H.length o).length ⟨e,H++LG H.length o'⟩=⟨e,H++LG H.length o'⟩:=by
 cases o with
 |none=>
  cases o' with
  |none=>exact jQ (H9 _)
  |some v=>
   refine jbq ?_
   have hg:((H++LG H.length (E6 v)).take (H++LG H.length H3).length)[H.length+1]?=E6 (kV v (H.length+6) (H.length+4) (H.length+3)):=by
    rw[Ia,if_pos (by rw[En];simp[LG]),yx];rfl
   refine KW ?_ hg;rw[En];simp[LG,zn,zw,vj]
 |some s=>
  refine jQ ?_;show(H++LG H.length o').length<=(H++LG H.length (E6 s)).length;rw[En,En];cases o'<;>simp[LG]
def Hm (H:qf)(l:ak GEv)(x:Int×Option HV):bn:=⟨[(2,.ptr H.length 0,Ha),(5,.ptr (H.length+1) 0,Ha),(14,sl 5 vev l,Ha),(15,Lv l,Ha),(16,Iv x.1,Ha)],H++LG H.length x.2⟩
def CZ (H:qf)(l:ak GEv):(Int×Int×Option HV)⊕(Int×Option HV)->jb×bn
 | .inl d=>(.ret,⟨[(2,.ptr H.length 0,Ha),(3,Iv d.1,Ha),(4,Iv d.2.1,Ha)],H++LG H.length d.2.2⟩)| .inr d=>(.exit 0,⟨[(2,.ptr H.length 0,Ha),(5,.ptr (H.length+1) 0,Ha),(14,sl 5 vev l,Ha),(15,Lv l,Ha),(16,Iv d.1,Ha),(17,.bool Ha,Ha)],H++LG H.length d.2⟩)
theorem j8b {H:qf}(hB:qr H.length H=Ic)(l:ak GEv)(x:Int×Option HV)(r)(h:rP l x=E6 r):jy pr C4 (Hm H l) (CZ H l) x r:=by
 rcases x with⟨i,o⟩;unfold rP at h;rcases qc h with⟨Y,h⟩|⟨Y,h⟩
 .obtain⟨e,I,h⟩:=qb h;obtain⟨c,h3,h⟩:=qb h;have w1:ae pr (X pr) 41 [aE e]=E6 (Iv c,Ha):=KD h3;rcases qc h with⟨h4,h⟩|⟨h4,h⟩
  .obtain⟨e2,h5,h⟩:=qb h;obtain⟨q,h6,h⟩:=qb h;have w2:ae pr (X pr) 46 [aE e]=E6 (aE e2,Ha):=W46 h5;obtain⟨hh,w3,wa⟩:=j4p hB (e:=e2) h6;rw[En]at wa;rcases qc h with⟨h7,h⟩|⟨h7,h⟩
   .cases h;exact kp (bP:=Hm H l (qd .i64 (i+1),q.2)) (by simp only[go_sem,seval,C4,Hm,Y,jm I,w1,h4,w2,w3,wa,h7,En,gF,gG,Zs,Zt,Zu,Zv]<;>rfl) (zd3 o q.2)
   .cases h;exact qu (by simp only[go_sem,seval,C4,Hm,Y,jm I,w1,h4,w2,w3,wa,h7,CZ,En,gF,gG,Zs,Zt,Zu,Zv]<;>rfl)
  .cases h;exact qu (by simp only[go_sem,seval,C4,Hm,Y,jm I,w1,h4,CZ,En,gF,gG,Zs,Zt,Zu,Zv]<;>rfl)
 .cases h;exact qu (by simp only[go_sem,seval,C4,Hm,Y,CZ]<;>rfl)
end Go.Z
namespace Go.Z
open Go Go.Abs Go.W
def LQ (n:Nat):Option HV->qf
 |none=>[kP (n+3),kP (n+3),kP (n+3),.vec 4 0 [aZ]]|some v=>[kV v (n+6) (n+4) (n+3),kV v (n+6) (n+4) (n+3),kP (n+3),.vec 4 v.vs (v.ss.map z6),.vec 5 v.vc (v.cs.map vev),.hole,.vec 5 v.ve (v.ev.map vev)]
def Hn (n:Nat):Option HV->AVal
 |none=>.agg [Nl,Nl,.ay (n+3) 0 1]|some v=>.agg [.ay (n+6) v.ve v.ev.length,.ay (n+4) v.vc v.lc,.ay (n+3) v.vs v.ls]
def Ho (n:Nat):(Int×Int)⊕Option HV->AVal
 | .inl x=>.aJ [.agg [Nl,Nl,Nl],Iv x.1,Iv x.2]| .inr o=>.aJ [Hn n o,Iv 0,Iv 0]
def LR (n:Nat):(Int×Int)⊕Option HV->qf
 | .inl _=>[]| .inr o=>LQ n o
theorem zed {n i k:Nat}:Nat.blt (n+i) (n+k)=Nat.blt i k:=by
 rw[Bool.eq_iff_iff];simp only[Nat.blt_eq];omega
theorem j6a {n i:Nat}:Nat.blt (n+i) n=Ha:=by
 rw[Bool.eq_false_iff];intro h;rw[Nat.blt_eq]at h;omega
theorem lg0 {n:Nat}{o:Option HV}:(LG n o)[0]?=E6 kO:=by cases o<;>rfl
theorem P8 {n:Nat}{v:AVal}{h:qf}(hv:Abs.below n v=Ha):qy n v h=h:=by
 unfold qy;rw[hv];cases Nat.ble h.length n<;>simp
theorem j77 {H:qf}(hB:qr H.length H=Ic){l r}(h:f27 l=E6 r):∃hh,ai pr (X pr) 27 [sl 5 vev l] H=E6 (Ho H.length r,Ha,hh)/\qy H.length (Ho H.length r) hh=H++LR H.length r:=by
 unfold f27 at h;rcases qc h with⟨Y,h⟩|⟨Y,h⟩
 .cases h;refine⟨H++[kO],?_,?_⟩
  .rw[qg (show pr.br 27=E6 Ah from rfl) (by simp)];simp only[go_sem,seval,Ah,Y,En,H2,gF,gG,rW,vK,yx,oA,iF,nM,Hb]<;>rfl
  .rw[show LR H.length (.inl (0,5))=[]from rfl,H4];exact qQ rfl rfl hB
 .obtain⟨d,I,h⟩:=qb h
  have w:ai pr (X pr) 55 [] (H++[kO,.hole])=E6 (.agg [Nl,Nl,.ay (H.length+3) 0 1],Ha,H++[kO,.hole,kP (H.length+3),.vec 4 0 [aZ]]):=by
   have w:=@j9i (H++[kO,.hole]);rw[show(H++[kO,.hole]).length=H.length+2 by rw[En];rfl,Hb]at w;exact w
  have wa:qy (H.length+2) (.agg [Nl,Nl,.ay (H.length+3) 0 1]) (H++[kO,.hole,kP (H.length+3),.vec 4 0 [aZ]])=H++[kO,.hole,kP (H.length+3),.vec 4 0 [aZ]]:=P8 (by simp[Abs.below,qo,zed];rfl);have wl:X pr (.loop C4) ⟨[(2,.ptr H.length 0,Ha),(5,.ptr (H.length+1) 0,Ha),(14,sl 5 vev l,Ha),(15,Lv l,Ha),(16,Iv 0,Ha)],H++[kO,kP (H.length+3),kP (H.length+3),.vec 4 0 [aZ]]⟩=E6 (CZ H l d):=z8 (j8b hB l) I;rcases d with⟨d1,d2,d3⟩|⟨d1,d2⟩
  .cases h;simp only[CZ]at wl;refine⟨H++LG H.length d3,?_,?_⟩
   .rw[qg (show pr.br 27=E6 Ah from rfl) (by simp)];simp only[go_sem,seval,Ah,Y,w,wa,wl,lg0,En,H2,gF,gG,rW,vK,yx,oA,iF,nM,Hb]<;>rfl
   .rw[show LR H.length (.inl (d1,d2))=[]from rfl,H4];exact qQ rfl rfl hB
  .cases h;simp only[CZ]at wl;refine⟨H++LQ H.length d2,?_,?_⟩
   .rw[qg (show pr.br 27=E6 Ah from rfl) (by simp)];rcases d2 with _|v
    .simp only[LG]at wl;simp only[go_sem,seval,Ah,Y,w,wa,wl,Hn,LQ,En,H2,gF,gG,rW,vK,yx,oA,iF,nM,Hb]<;>rfl
    .simp only[LG]at wl;simp only[go_sem,seval,Ah,Y,w,wa,wl,Hn,LQ,En,H2,gF,gG,rW,vK,yx,oA,iF,nM,Hb]<;>rfl
   .refine P8 ?_;cases d2<;>simp[Ho,Hn,Abs.below,qo,j6a]
end Go.Z
namespace Go.Z
open Go Go.Abs Go.W
def LO (n:Nat):Option HV->qf
 |none=>[kP (n+3),kP (n+3),kP (n+3),.vec 4 0 [aZ],kP (n+3)]|some v=>[kV v (n+6) (n+4) (n+3),kV v (n+6) (n+4) (n+3),kP (n+3),.vec 4 v.vs (v.ss.map z6),.vec 5 v.vc (v.cs.map vev),.hole,.vec 5 v.ve (v.ev.map vev),kV v (n+6) (n+4) (n+3)]
def pO (n:Nat):Option HV->Nat
 |none=>n+4|some _=>n+7
def f7 (t:aj):Option (Int×Option (Option HV)):=
 qa (f17 t) fun r=>
 cond (decide (r.2.2=0)||decide (r.2.2=29))
  (qa (f27 r.1) fun d=>match d with
   | .inl x=>cond (decide (x.2=0)) H3 (E6 (x.2,H3))
   | .inr o=>E6 (0,E6 o))
  (E6 (r.2.2,H3))
theorem jjd {H:qf}(hB:qr H.length H=Ic){t q}(h:f7 t=E6 q):∃hh,ai aB (X aB) 7 [.str t] H=E6 (.aJ [(match q.2 with|none=>.b6|some o=>.ptr (pO H.length o) 0),Iv q.1],Ha,hh)/\(match q.2 with|none=>∃L,hh=H++L|some o=>hh=H++LO H.length o):=by
 unfold f7 at h;obtain⟨r,k1,h⟩:=qb h;have w1:=KH k1
 have fin:∀(b1 b2:Bool),decide (r.2.2=0)=b1->decide (r.2.2=29)=b2->(b1||b2)=Ic->∀d,f27 r.1=E6 d->(match d with
   | .inl x=>cond (decide (x.2=0)) H3 (E6 (x.2,H3))
   | .inr o=>E6 (0,E6 o))=E6 q->∃hh,ai aB (X aB) 7 [.str t] H=E6 (.aJ [(match q.2 with|none=>.b6|some o=>.ptr (pO H.length o) 0),Iv q.1],Ha,hh)/\(match q.2 with|none=>∃L,hh=H++L|some o=>hh=H++LO H.length o):=by
  intro b1 b2 Y I h3 d k2 h;obtain⟨hh,w2,wa⟩:=j77 hB k2;have w2:=aF.ai w2;rcases d with x|o
  .rcases qc h with⟨h4,h⟩|⟨h4,h⟩
   .cases h
   .cases h;simp only[Ho,LR,H4]at w2 wa;refine⟨H,?_,[],(H4 _).symm⟩;rw[qg (show aB.br 7=E6 c7 from rfl) (by simp)]
    cases b1<;>cases b2<;>first|exact absurd h3 Ib|(simp only[go_sem,seval,c7,w1,Y,I,w2,wa,h4,En,H2,gF,gG,rW,vK,yx,oA,iF,nM,Hb]<;>rfl)
  .cases h;rcases o with _|v
   .simp only[Ho,Hn,LR,LQ]at w2 wa;refine⟨H++LO H.length H3,?_,rfl⟩;rw[qg (show aB.br 7=E6 c7 from rfl) (by simp)]
    cases b1<;>cases b2<;>first|exact absurd h3 Ib|(simp only[go_sem,seval,c7,w1,Y,I,w2,wa,LO,pO,En,H2,gF,gG,rW,vK,yx,oA,iF,nM,Hb]<;>rfl)
   .simp only[Ho,Hn,LR,LQ]at w2 wa;refine⟨H++LO H.length (E6 v),?_,rfl⟩;rw[qg (show aB.br 7=E6 c7 from rfl) (by simp)]
    cases b1<;>cases b2<;>first|exact absurd h3 Ib|(simp only[go_sem,seval,c7,w1,Y,I,w2,wa,LO,pO,En,H2,gF,gG,rW,vK,yx,oA,iF,nM,Hb]<;>rfl)
 rcases qc h with⟨h3,h⟩|⟨h3,h⟩
 .obtain⟨d,k2,h⟩:=qb h;exact fin _ _ rfl rfl h3 d k2 h
 .cases h;refine⟨H,?_,[],(H4 _).symm⟩;rw[Bool.or_eq_false_iff]at h3;have Y:=h3.1;have I:=h3.2;rw[qg (show aB.br 7=E6 c7 from rfl) (by simp)];simp only[go_sem,seval,c7,w1,Y,I,En,H2]<;>rfl
theorem jbr {H:qf}(hB:qr H.length H=Ic)(o:Option HV):qr (H++LO H.length o).length (H++LO H.length o)=Ic:=by
 refine grown hB ?_;rw[En]
 cases o with
 |none=>simp[LO,qr,zn,zw,vj];rfl|some v=>simp[LO,qr,zn,zw,vj];rfl
def SS.open (H:qf)(o:Option HV):SS:=⟨H++LO H.length o,pO H.length o,H.length+6,H.length+4,H.length+3,o⟩
theorem SS.iU {H:qf}(hB:qr H.length H=Ic)(o:Option HV):(SS.open H o).ok:=by
 cases o with
 |none=>
  have D:D2 (H++LO H.length H3) (H.length+4) (H.length+3):=by
   constructor<;>first|omega|(rw[En];simp[LO])
  exact(⟨D,(yx _ 4),(yx _ 3),jbr hB H3⟩:fC (H++LO H.length H3) (H.length+4) (H.length+3))
 |some s=>
  have D:D4 (H++LO H.length (E6 s)) (H.length+7) (H.length+6) (H.length+4) (H.length+3):=by
   constructor<;>first|omega|(rw[En];simp[LO])
  exact(⟨D,(yx _ 7),(yx _ 6),(yx _ 4),(yx _ 3),jbr hB _⟩:jH (H++LO H.length (E6 s)) (H.length+7) (H.length+6) (H.length+4) (H.length+3) s)
end Go.Z
namespace Go.Z
open Go Go.Abs Go.W
theorem jbb {n:Nat}{v:AVal}{x:aK}{h:qf}{i:Nat}(hi:h[i]?=E6 x)(hn:i<n)(M:zn n x=Ha):qy n v h=h:=by
 unfold qy
 have ht:(h.take n)[i]?=E6 x:=by rw[Ia,if_pos hn];exact hi
 rw[KW M ht,Bool.and_false];cases Nat.ble h.length n<;>rfl
theorem DoG {H:qf}{p:Nat}{e0 x1 x2:AVal×Bool}{o:Option HV}{aae:Option HV->qf}(hp:qw H p=E6 [e0,x1,x2])(hl:∀h,vb 1 h (E6 e0.1)=E6 ⟨Iv (((hJ o).length:Nat):Int),Ha,H3,h⟩)(hB:qr H.length H=Ic)
  (dD:∀r,OO o=E6 r->∃L,ai aB (X aB) 103 [.ptr p 0] (H++[fm])=E6 (aR r,Ha,(H++[fm])++L))
  (xb:∀e q,tA o e=E6 q->∃hh,ai aB (X aB) 42 [.ptr p 0,aE e] (H++[fm,iT])=E6 (Iv q.1,Ha,hh)/\qy (H.length+2) (Iv q.1) hh=aae q.2)
  {line:aj} {q} (h:vM o line=E6 q):∃hh,ai aB (X aB) 10 [.ptr p 0,.str line] H=E6 (.aJ [.str q.1,Iv q.2.1],Ha,hh)/\((q.2.2=o/\∃L,hh=H++L)\/(hh=aae q.2.2/\∃e y,tA o e=E6 y/\y.2=q.2.2)):=by
 unfold vM at h;obtain⟨e1,k1,h⟩:=qb h;obtain⟨e2,k2,h⟩:=qb h;obtain⟨e3,k3,h⟩:=qb h;rcases qc h with⟨h3,h⟩|⟨h3,h⟩
 .obtain⟨l,k4,h⟩:=qb h;obtain⟨w,k5,h⟩:=qb h
  cases kq:lW w with
  |some f=>
   rw[kq]at h;obtain⟨r,Q,h⟩:=qb h;obtain⟨a,ka,h⟩:=qb h;cases h;obtain⟨L,hn⟩:=dD r Q;exact⟨_,jsf k1 k2 k3 h3 k4 k5 kq hn (grown hB jet) ka,.inl ⟨rfl,_,rfl⟩⟩
  |none=>
   rw[kq]at h;rcases qc h with⟨kf,h⟩|⟨kf,h⟩
   .obtain⟨x,k6,h⟩:=qb h;obtain⟨e4,k7,h⟩:=qb h;obtain⟨e5,k8,h⟩:=qb h;obtain⟨e6,k9,h⟩:=qb h;rcases qc h with⟨h6,h⟩|⟨h6,h⟩
    .obtain⟨c,Ag,h⟩:=qb h;rcases qc h with⟨hc,h⟩|⟨hc,h⟩
     .obtain⟨y,hy,h⟩:=qb h;obtain⟨hh,ka,kw⟩:=xb x.1 y hy;rcases qc h with⟨hq,h⟩|⟨hq,h⟩
      .obtain⟨s,Zn,h⟩:=qb h;obtain⟨t,Zo,h⟩:=qb h;cases h;exact⟨_,jt0 k1 k2 k3 h3 k4 k5 hp hl kq kf k6 k7 k8 k9 h6 Ag hc ka kw hq Zn Zo,.inr ⟨rfl,_,_,hy,rfl⟩⟩
      .cases h;exact⟨_,jy4 k1 k2 k3 h3 k4 k5 hp hl kq kf k6 k7 k8 k9 h6 Ag hc ka kw hq,.inr ⟨rfl,_,_,hy,rfl⟩⟩
     .cases h;exact⟨_,jl4 k1 k2 k3 h3 k4 k5 hp hl kq kf k6 k7 k8 k9 h6 Ag hc,.inl ⟨rfl,_,rfl⟩⟩
    .cases h;exact⟨_,jon k1 k2 k3 h3 k4 k5 hp hl kq kf k6 k7 k8 k9 h6,.inl ⟨rfl,_,rfl⟩⟩
   .cases h;exact⟨_,jr8 k1 k2 k3 h3 k4 k5 kq kf,.inl ⟨rfl,_,rfl⟩⟩
 .cases h;exact⟨_,jwd k1 k2 k3 h3,.inl ⟨rfl,[],(H4 _).symm⟩⟩
theorem P9 {S:SS}(hS:S.ok){line:aj}{q}(h:vM S.v line=E6 q):∃hh,ai aB (X aB) 10 [.ptr S.p 0,.str line] S.H=E6 (.aJ [.str q.1,Iv q.2.1],Ha,hh)/\qy S.H.length (.aJ [.str q.1,Iv q.2.1]) hh=(S.next q.2.2).H/\(S.next q.2.2).ok/\(S.next q.2.2).v=q.2.2/\(S.next q.2.2).p=S.p:=by
 obtain⟨H,p,a,b,c,v⟩:=S
 have pN:∀n,Abs.below n (.aJ [.str q.1,Iv q.2.1])=Ic:=fun n=>by simp only[go_sem,seval]
 cases v with
 |none=>
  have V:fC H p c:=hS;have s2:fC (H++[fm,iT]) p c:=V.app Zq
  have dW:(H++[fm,iT]).length=H.length+2:=by rw[En];rfl
  obtain⟨hh,w1,w2⟩:=DoG (H:=H) (p:=p) (o:=none) (aae:=fun o=>match o with
    |none=>H++[fm,iT]
    |some v=>rY (H++[fm,iT]) p c v) (G1 V.hp) (fun h=>rfl) V.lX
   (fun r Q=>by
    cases Q
    exact⟨_,aF.ai (PY (x0:=(Nl,Ha)) (x1:=(Nl,Ha)) (vs:=0) (ls:=1) (ss:=[dY]) (r:=dY) (CL (G1 V.hp) _) (oz V.hc _) rfl)⟩)
   (fun e y hy=>by
    obtain⟨hh,g1,g2⟩:=jja s2.d s2.lX (e:=e) (q:=y) hy;rw[s2.eq]at g1 g2;rw[dW]at g2;refine⟨hh,aF.ai g1,?_⟩;rw[g2]
    cases y.2<;>rfl) h
  refine⟨hh,w1,?_⟩;rcases w2 with⟨e1,L,rfl⟩|⟨rfl,e,y,hy,Zw⟩
  .rw[e1];exact⟨qQ rfl (pN _) V.lX,V,rfl,rfl⟩
  .cases hq:q.2.2 with
   |none=>exact⟨qQ rfl (pN _) V.lX,V,rfl,rfl⟩
   |some v=>
    have hf:=jH.first (s:=v) s2.d s2.lX;rw[dW]at hf;refine⟨?_,hf,rfl,rfl⟩;refine jbb hf.hp V.d.lp ?_;simp[zn,zw,vj];omega
 |some s=>
  have V:jH H p a b c s:=hS;have s2:jH (H++[fm,iT]) p a b c s:=V.app Zq
  have dW:(H++[fm,iT]).length=H.length+2:=by rw[En];rfl
  obtain⟨hh,w1,w2⟩:=DoG (H:=H) (p:=p) (o:=E6 s) (aae:=fun o=>match o with
    |none=>H
    |some v=>sH (H++[fm,iT]) p a b c v) (G1 V.hp) (fun h=>rfl) V.lX
   (fun r Q=>⟨_,aF.ai (PY (x0:=(.ay a s.ve s.ev.length,Ha)) (x1:=(.ay b s.vc s.lc,Ha)) (vs:=s.vs) (ls:=s.ls) (ss:=s.ss) (r:=r) (CL (G1 V.hp) _) (oz V.hc _) Q)⟩)
   (fun e y hy=>by
    obtain⟨z,hz,hy⟩:=qb hy;cases hy;obtain⟨hh,g1,g2⟩:=jrn s2.d s2.lX (e:=e) (q:=z) hz;rw[show cL (H++[fm,iT]) p a b c (kV s a b c) (.vec 5 s.ve (s.ev.map vev)) (.vec 5 s.vc (s.cs.map vev)) (.vec 4 s.vs (s.ss.map z6))=H++[fm,iT]from s2.eq]at g1;rw[dW]at g2
    exact⟨hh,aF.ai g1,g2⟩) h
  refine⟨hh,w1,?_⟩;rcases w2 with⟨e1,L,rfl⟩|⟨rfl,e,y,hy,Zw⟩
  .rw[e1];refine⟨?_,?_,rfl,rfl⟩
   .show qy H.length _ (H++L)=sH H p a b c s;rw[V.eq];exact qQ rfl (pN _) V.lX
   .exact jH.hZ V.d V.lX
  .cases hq:q.2.2 with
   |none=>
    exfalso;obtain⟨z,hz,hy⟩:=qb hy;cases hy;rw[hq]at Zw;cases Zw
   |some v=>
    refine⟨?_,jH.hZ V.d V.lX,rfl,rfl⟩;show qy H.length _ (sH (H++[fm,iT]) p a b c v)=sH H p a b c v;rw[show sH (H++[fm,iT]) p a b c v=sH H p a b c v++[fm,iT]from jrs V.d];exact qQ K4 (pN _) (KQ V.lX (G9 V.d.la V.d.lb V.d.lc) rfl rfl rfl)
end Go.Z
namespace Go.Z
open Go Go.Abs Go.W
def Zx (S:SS):Bool:=@decide S.ok (Classical.propDecidable _)
theorem jic {S:SS}:Zx S=Ic↔S.ok:=by unfold Zx;simp
theorem gcS {S:SS}(hS:S.ok)(o:Option HV){e:Env}:gc S.H.length ⟨e,(S.next o).H⟩=⟨e,(S.next o).H⟩:=by
 obtain⟨H,p,a,b,c,v⟩:=S
 cases v with
 |none=>
  have V:fC H p c:=hS
  cases o with
  |none=>exact jQ (H9 _)
  |some v=>
   have s2:fC (H++[fm,iT]) p c:=V.app Zq
   have dW:(H++[fm,iT]).length=H.length+2:=by rw[En];rfl
   have hf:=jH.first (s:=v) s2.d s2.lX;rw[dW]at hf;refine jbq ?_
   have hg:((rY (H++[fm,iT]) p c v).take H.length)[p]?=E6 (kV v (H.length+4) (H.length+2) c):=by
    rw[Ia,if_pos V.d.lp];exact hf.hp
   refine KW ?_ hg;simp[zn,zw,vj];omega
 |some s=>
  cases o with
  |none=>exact jQ (H9 _)|some v=>exact jQ (Nat.le_of_eq K4)
end Go.Z
namespace Go.Z
open Go Go.Abs Go.W
def evF:Option HV->Option (ak GEv×Bool)
 |none=>E6 (H3,Ha)|some s=>zh6 s.ev
def Zy:Option HV->Option aj
 |none=>E6 []|some s=>f13 s.ev
theorem zjw {S:SS}(hS:S.ok){t}(h:Zy S.v=E6 t):ai aB (X aB) 13 [.ptr S.p 0] S.H=E6 (.str t,Ha,S.H):=by
 obtain⟨H,p,a,b,c,v⟩:=S
 cases v with
 |none=>
  have V:fC H p c:=hS;cases h;exact j7e (G1 V.hp)
 |some s=>
  have V:jH H p a b c s:=hS;exact j75 (G1 V.hp) V.ha h
theorem zcy {O:ak GEv}{J:ak GEv}{r}(h:f11 O J=E6 r):ae aB (X aB) 11 [sl 5 vev O,sl 5 vev J]=E6 (.bool r,Ha):=aF.ae (W11 h)
end Go.Z
namespace Go.Z
open Go Go.Abs Go.W
def SS.at (A:SS)(H:qf):SS:={ A with H:=H }
theorem q4v {S:SS}(hS:S.ok):S.next S.v=S:=by
 obtain⟨H,p,a,b,c,v⟩:=S
 cases v with
 |none=>rfl
 |some s=>
  have V:jH H p a b c s:=hS;show SS.mk (sH H p a b c s) p a b c (E6 s)=_;rw[V.eq]
theorem SS.jI {S:SS}(hS:S.ok):qr S.H.length S.H=Ic:=by
 obtain⟨H,p,a,b,c,v⟩:=S
 cases v with
 |none=>exact(show fC H p c from hS).lX|some s=>exact(show jH H p a b c s from hS).lX
theorem SS.move {A:SS}{H H':qf}(h:(A.at H).ok)(hb:qr H'.length H'=Ic)(hl:H.length<=H'.length)(hp:H'[A.p]?=H[A.p]?)(hc:H'[A.c]?=H[A.c]?)(mI:A.v≠H3->H'[A.a]?=H[A.a]?/\H'[A.b]?=H[A.b]?):(A.at H').ok:=by
 obtain⟨HH,p,a,b,c,v⟩:=A;have hp:H'[p]?=H[p]?:=hp;have hc:H'[c]?=H[c]?:=hc
 cases v with
 |none=>
  have V:fC H p c:=h;exact(⟨⟨If V.d.lp hl,If V.d.lc hl,V.d.pc⟩,hp.trans V.hp,hc.trans V.hc,hb⟩:fC H' p c)
 |some s=>
  have V:jH H p a b c s:=h;obtain⟨ha,fq⟩:H'[a]?=H[a]?/\H'[b]?=H[b]?:=mI (by simp);obtain⟨Y,I,h3,h4,h5,h6,h7,h8,h9,et⟩:=V.d;exact(⟨⟨by omega,by omega,by omega,by omega,h5,h6,h7,h8,h9,et⟩,hp.trans V.hp,ha.trans V.ha,fq.trans V.hb,hc.trans V.hc,hb⟩:jH H' p a b c s)
structure Sep (n0 n1:Nat)(S A:SS):Prop where
 ok:S.ok
 dS:(A.at S.H).ok
 n:n1<=S.H.length
 p:S.p<n0
 c:S.c<n0
 ab:S.v≠H3->(S.a<n0\/n1<=S.a)/\(S.b<n0\/n1<=S.b)
 ap:n0<=A.p/\A.p<n1
 ac:n0<=A.c/\A.c<n1
 aab:A.v≠H3->(n0<=A.a/\A.a<n1)/\(n0<=A.b/\A.b<n1)
theorem Sep.get {n0 n1:Nat}{S A:SS}(h:Sep n0 n1 S A)(o:Option HV){i:Nat}(h0:n0<=i)(Y:i<n1):(S.next o).H[i]?=S.H[i]?:=by
 have hn:=h.n;have hp:=h.p;have hc:=h.c;have mI:=h.ab;clear h;obtain⟨H,p,a,b,c,v⟩:=S;simp only[]at hn hp hc mI
 cases v with
 |none=>
  cases o with
  |none=>rfl
  |some s=>
   show(rY (H++[fm,iT]) p c s)[i]?=H[i]?;unfold rY;rw[H8 (by rw[qR,En];omega)];unfold dV;rw[Hc (by omega),Hc (by omega),H8 (by omega)]
 |some x=>
  obtain⟨ha,hb⟩:=mI (by simp)
  cases o with
  |none=>rfl
  |some s=>
   show(sH H p a b c s)[i]?=H[i]?;unfold sH cL;rw[Hc (by omega),Hc (by omega),Hc (by omega),Hc (by omega)]
theorem q62 {S:SS}(o:Option HV):S.H.length<=(S.next o).H.length:=by
 obtain⟨H,p,a,b,c,v⟩:=S
 cases v with
 |none=>
  cases o with
  |none=>exact H9 _
  |some s=>
   show H.length<=(rY (H++[fm,iT]) p c s).length;unfold rY;rw[En,qR,En];omega
 |some x=>
  cases o with
  |none=>exact H9 _
  |some s=>
   show H.length<=(sH H p a b c s).length;rw[show(sH H p a b c s).length=H.length from K4];exact H9 _
theorem Sep.next {n0 n1:Nat}{S A:SS}(h:Sep n0 n1 S A){o:Option HV}(hn:(S.next o).ok):Sep n0 n1 (S.next o) A where
 ok:=hn
 dS:=SS.move h.dS (SS.jI hn) (q62 o) (h.get o h.ap.1 h.ap.2) (h.get o h.ac.1 h.ac.2) fun hv=>⟨h.get o (h.aab hv).1.1 (h.aab hv).1.2,h.get o (h.aab hv).2.1 (h.aab hv).2.2⟩
 n:=Nat.le_trans h.n (q62 o)
 p:=by
  have:=h.p;obtain⟨H,p,a,b,c,v⟩:=S;cases v<;>cases o<;>exact this
 c:=by
  have:=h.c;obtain⟨H,p,a,b,c,v⟩:=S;cases v<;>cases o<;>exact this
 ab:=by
  have hl:=h.n;have mI:=h.ab;obtain⟨H,p,a,b,c,v⟩:=S;simp only[]at hl mI
  cases v with
  |none=>
   cases o with
   |none=>exact fun hv=>absurd rfl hv
   |some s=>exact fun _=>⟨.inr (by show n1<=H.length+4;omega),.inr (by show n1<=H.length+2;omega)⟩
  |some x=>
   cases o with
   |none=>exact fun hv=>mI (by simp)
   |some s=>exact fun _=>mI (by simp)
 ap:=h.ap
 ac:=h.ac
 aab:=h.aab
theorem Sep.open (o1 o2:Option HV):Sep (SS.open [] o1).H.length (SS.open (SS.open [] o1).H o2).H.length ((SS.open [] o1).at (SS.open (SS.open [] o1).H o2).H) (SS.open (SS.open [] o1).H o2):=by
 have k1:(SS.open [] o1).ok:=SS.iU rfl o1;have k2:(SS.open (SS.open [] o1).H o2).ok:=SS.iU (SS.jI k1) o2;have hl:(SS.open (SS.open [] o1).H o2).H.length=(SS.open [] o1).H.length+(LO (SS.open [] o1).H.length o2).length:=En;have hg:∀i,i<(SS.open [] o1).H.length->(SS.open (SS.open [] o1).H o2).H[i]?=(SS.open [] o1).H[i]?:=fun i hi=>H8 hi
 have s1:(SS.open [] o1).p<(SS.open [] o1).H.length/\(SS.open [] o1).c<(SS.open [] o1).H.length/\(o1≠H3->(SS.open [] o1).a<(SS.open [] o1).H.length/\(SS.open [] o1).b<(SS.open [] o1).H.length):=by
  cases o1 with
  |none=>exact⟨by decide,by decide,fun h=>absurd rfl h⟩|some s=>exact⟨(by show(7:Nat)<8;omega),(by show(3:Nat)<8;omega),fun _=>⟨(by show(6:Nat)<8;omega),(by show(4:Nat)<8;omega)⟩⟩
 have s2:((SS.open [] o1).H.length<=(SS.open (SS.open [] o1).H o2).p/\(SS.open (SS.open [] o1).H o2).p<(SS.open (SS.open [] o1).H o2).H.length)/\((SS.open [] o1).H.length<=(SS.open (SS.open [] o1).H o2).c/\(SS.open (SS.open [] o1).H o2).c<(SS.open (SS.open [] o1).H o2).H.length)/\(o2≠H3->((SS.open [] o1).H.length<=(SS.open (SS.open [] o1).H o2).a/\(SS.open (SS.open [] o1).H o2).a<(SS.open (SS.open [] o1).H o2).H.length)/\((SS.open [] o1).H.length<=(SS.open (SS.open [] o1).H o2).b/\(SS.open (SS.open [] o1).H o2).b<(SS.open (SS.open [] o1).H o2).H.length)):=by
  rw[hl];generalize (SS.open [] o1).H=H
  cases o2 with
  |none=>
   refine⟨⟨?_,?_⟩,⟨?_,?_⟩,fun h=>absurd rfl h⟩
   .show H.length<=H.length+4;omega
   .show H.length+4<H.length+5;omega
   .show H.length<=H.length+3;omega
   .show H.length+3<H.length+5;omega
  |some s=>
   refine⟨⟨?_,?_⟩,⟨?_,?_⟩,fun _=>⟨⟨?_,?_⟩,⟨?_,?_⟩⟩⟩
   .show H.length<=H.length+7;omega
   .show H.length+7<H.length+8;omega
   .show H.length<=H.length+3;omega
   .show H.length+3<H.length+8;omega
   .show H.length<=H.length+6;omega
   .show H.length+6<H.length+8;omega
   .show H.length<=H.length+4;omega
   .show H.length+4<H.length+8;omega
 exact
  ⟨SS.move (A:=SS.open [] o1) (H:=(SS.open [] o1).H) k1 (SS.jI k2) (by rw[hl];omega) (hg _ s1.1) (hg _ s1.2.1) fun hv=>⟨hg _ (s1.2.2 hv).1,hg _ (s1.2.2 hv).2⟩,k2,H9 _,s1.1,s1.2.1,fun hv=>⟨.inl (s1.2.2 hv).1,.inl (s1.2.2 hv).2⟩,s2.1,s2.2.1,s2.2.2⟩
end Go.Z
end
