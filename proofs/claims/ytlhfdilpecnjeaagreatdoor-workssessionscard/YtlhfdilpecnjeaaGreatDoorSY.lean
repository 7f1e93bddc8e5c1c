/- A session's history made anew and replayed, in any heap. -/
import Derived.Test.YtlhfdilpecnjeaaGreatDoorSX
import Derived.Test.YtlhfdilpecnjeaaGreatDoorSA
set_option linter.all false
set_option maxRecDepth 100000
set_option maxHeartbeats 4000000
noncomputable section
open List renaming length_append->En,append_assoc->Gd,append_nil->Hq,getElem?_take->If,length_cons->Ik,mem_cons->Io
open Bool renaming false->Ga,false_ne_true->Ha,true->H2,or_eq_false_iff->Ig
open Option renaming some->Gb,none->Hc
open Nat renaming add_zero->Hb,zero_lt_succ->Ii,le_refl->Ij
namespace Go.Z
open Go Go.Abs Go.W
def LG (n:Nat):Option HV->qh
 |none=>[kO,kP (n+3),kP (n+3),.vec 4 0 [aZ]]|some v=>[kO,kV v (n+6) (n+4) (n+3),kP (n+3),.vec 4 v.vs (v.ss.map zw),.vec 5 v.vc (v.cs.map bK),.hole,.vec 5 v.ve (v.ev.map bK)]
theorem j1h {H:qh}{e:Env}(he:yf e 4 [(0,.tmp 1)]=Gb [(0,aZ)]):qf pr (X pr) (H.length+1) Hc e (H++[kO,.hole]) (.gG 0 4 1 [Iv 0,Nl,Nl,Nl] [(0,.tmp 1)])=Gb ⟨.az (H.length+1) 0 1,Ga,Hc,H++[kO,.vec 4 0 [aZ]]⟩:=by
 have nb:aQ (H.length+1) (H++[kO,.hole]) 0 (.vec 4 0 [aZ])=Gb (H++[kO,.vec 4 0 [aZ]]):=by
  unfold aQ;rw[show H.length+1+0=H.length+1 from rfl,yl,kl];rfl
 have M:∀ps,ps=Gb [(0,aZ)]->(match ps with
  |some ps=>match mA (List.replicate 1 (bif Nat.beq 4 1 then([Iv 0,Nl,Nl,Nl]:List AVal).headD .undef else .agg [Iv 0,Nl,Nl,Nl])) ps with
   |some xs=>bif qp 0 xs then(match aQ (H.length+1) (H++[kO,.hole]) 0 (.vec 4 0 xs)with
    |some h'=>val h' (.az (H.length+1+0) 0 xs.length)
    |none=>Hc)else Hc
   |none=>Hc
  |none=>Hc)=Gb ⟨.az (H.length+1) 0 1,Ga,Hc,H++[kO,.vec 4 0 [aZ]]⟩:=by
  intro ps hp;subst hp
  show(match aQ (H.length+1) (H++[kO,.hole]) 0 (.vec 4 0 [aZ])with
    |some h'=>val h' (.az (H.length+1+0) 0 1)
    |none=>Hc)=_
  rw[nb];rfl
 exact M _ he
theorem j59 {H:qh}:ai pr (X pr) 55 [] H=Gb (.agg [Nl,Nl,.az (H.length+1) 0 1],Ga,H++[kP (H.length+1),.vec 4 0 [aZ]]):=by
 have v:=@j1h H [(1,aZ,Ga),(0,.ptr H.length 0,Ga)] rfl;rw[qg (show pr.br 55=Gb c55 from rfl) (by simp)];simp only[go_sem,seval,c55,v,En,Hb,gQ,gR,rG,uk,yl,oq,kl,nH,Gd]
theorem jdn {H:qh}(hB:qt H.length H=H2)(o:Option HV):qt (H++LG H.length o).length (H++LG H.length o)=H2:=by
 refine grown hB ?_;rw[En]
 cases o with
 |none=>simp[LG,qt,zj,zq,vK];rfl|some v=>simp[LG,qt,zj,zq,vK];rfl
theorem j47 {H:qh}(hB:qt H.length H=H2){o:Option HV}{e:aC}{q}(h:sA o e=Gb q):∃hh,ai pr (X pr) 42 [.ptr (H.length+1) 0,aE e] (H++LG H.length o)=Gb (Iv q.1,Ga,hh)/\qz (H++LG H.length o).length (Iv q.1) hh=H++LG H.length q.2:=by
 cases o with
 |none=>
  have D:D2 (H++LG H.length Hc) (H.length+1) (H.length+3):=by
   constructor<;>first|omega|(rw[En];simp[LG])
  have S:gS (H++LG H.length Hc) (H.length+1) (H.length+3):=⟨D,(yl _ 1),(yl _ 3),jdn hB Hc⟩;obtain⟨hh,g1,g2⟩:=jkr D S.mR (e:=e) (q:=q) h;rw[S.eq]at g1 g2;refine⟨hh,g1,?_⟩;rw[g2]
  cases q.2 with
  |none=>rfl
  |some v=>
   show dZ (H++LG H.length Hc) _ _ _ _++_=_;rw[show(H++LG H.length Hc).length=H.length+4 by rw[En];rfl];unfold dZ;rw[kl,kl,Gd];rfl
 |some s=>
  have D:D4 (H++LG H.length (Gb s)) (H.length+1) (H.length+6) (H.length+4) (H.length+3):=by
   constructor<;>first|omega|(rw[En];simp[LG])
  have S:lD (H++LG H.length (Gb s)) (H.length+1) (H.length+6) (H.length+4) (H.length+3) s:=⟨D,(yl _ 1),(yl _ 6),(yl _ 4),(yl _ 3),jdn hB _⟩;obtain⟨z,hz,hy⟩:=qb h;cases hy;obtain⟨hh,g1,g2⟩:=jrv D S.mR (e:=e) (q:=z) hz;rw[show cO (H++LG H.length (Gb s)) _ _ _ _ (kV s _ _ _) (.vec 5 s.ve (s.ev.map bK)) (.vec 5 s.vc (s.cs.map bK)) (.vec 4 s.vs (s.ss.map zw))=H++LG H.length (Gb s)from S.eq]at g1;refine⟨hh,g1,?_⟩;rw[g2];unfold cO;rw[kl,kl,kl,kl];rfl
theorem jgw {n:Nat}{o:Option HV}:0<(LG n o).length:=by cases o<;>exact Ii _
theorem jgi {n:Nat}{o:Option HV}:1<(LG n o).length:=by cases o<;>exact Nat.succ_lt_succ (Ii _)
theorem jas {H:qh}{o:Option HV}:qv (H++LG H.length o) H.length=Gb [(Nl,Ga),(Nl,Ga),(Nl,Ga)]:=by
 rw[uk];cases o<;>rfl
theorem je7 {H:qh}{o:Option HV}:(H++LG H.length o).set H.length kO=H++LG H.length o:=by
 rw[nH];cases o<;>rfl
theorem zeg {H:qh}(o o':Option HV){e:Env}:gc (H++LG H.length o).length ⟨e,H++LG H.length o'⟩=⟨e,H++LG H.length o'⟩:=by
 cases o with
 |none=>
  cases o' with
  |none=>exact yg (Ij _)
  |some v=>
   refine jdm ?_
   have hg:((H++LG H.length (Gb v)).take (H++LG H.length Hc).length)[H.length+1]?=Gb (kV v (H.length+6) (H.length+4) (H.length+3)):=by
    rw[If,if_pos (by rw[En];simp[LG]),yl];rfl
   refine LV ?_ hg;rw[En];simp[LG,zj,zq,vK]
 |some s=>
  refine yg ?_;show(H++LG H.length o').length<=(H++LG H.length (Gb s)).length;rw[En,En];cases o'<;>simp[LG]
def HO (H:qh)(l:ak aC)(x:Int×Option HV):bg:=⟨[(2,.ptr H.length 0,Ga),(5,.ptr (H.length+1) 0,Ga),(14,sl 5 bK l,Ga),(15,Lv l,Ga),(16,Iv x.1,Ga)],H++LG H.length x.2⟩
def Dp (H:qh)(l:ak aC):(Int×Int×Option HV)⊕(Int×Option HV)->q9×bg
 | .inl d=>(.ret,⟨[(2,.ptr H.length 0,Ga),(3,Iv d.1,Ga),(4,Iv d.2.1,Ga)],H++LG H.length d.2.2⟩)| .inr d=>(.exit 0,⟨[(2,.ptr H.length 0,Ga),(5,.ptr (H.length+1) 0,Ga),(14,sl 5 bK l,Ga),(15,Lv l,Ga),(16,Iv d.1,Ga),(17,.bool Ga,Ga)],H++LG H.length d.2⟩)
theorem j6c {H:qh}(hB:qt H.length H=H2)(l:ak aC)(x:Int×Option HV)(r)(h:sB l x=Gb r):jo pr Dq (HO H l) (Dp H l) x r:=by
 rcases x with⟨i,o⟩;unfold sB at h;rcases qc h with⟨Y,h⟩|⟨Y,h⟩
 .obtain⟨e,I,h⟩:=qb h;obtain⟨c,h3,h⟩:=qb h;have w1:ae pr (X pr) 41 [aE e]=Gb (Iv c,Ga):=Lk h3;rcases qc h with⟨h4,h⟩|⟨h4,h⟩
  .obtain⟨e2,h5,h⟩:=qb h;obtain⟨q,h6,h⟩:=qb h;have w2:ae pr (X pr) 46 [aE e]=Gb (aE e2,Ga):=W46 h5;obtain⟨hh,w3,wa⟩:=j47 hB (e:=e2) h6;rw[En]at wa;rcases qc h with⟨h7,h⟩|⟨h7,h⟩
   .cases h;exact z5 (bH:=HO H l (qd .i64 (i+1),q.2)) (by simp only[go_sem,seval,Dq,HO,Y,jn I,w1,h4,w2,w3,wa,h7,En,gQ,gR,jgw,jgi,jas,je7]<;>rfl) (zeg o q.2)
   .cases h;exact qn (by simp only[go_sem,seval,Dq,HO,Y,jn I,w1,h4,w2,w3,wa,h7,Dp,En,gQ,gR,jgw,jgi,jas,je7]<;>rfl)
  .cases h;exact qn (by simp only[go_sem,seval,Dq,HO,Y,jn I,w1,h4,Dp,En,gQ,gR,jgw,jgi,jas,je7]<;>rfl)
 .cases h;exact qn (by simp only[go_sem,seval,Dq,HO,Y,Dp]<;>rfl)
end Go.Z
namespace Go.Z
open Go Go.Abs Go.W
def LQ (n:Nat):Option HV->qh
 |none=>[kP (n+3),kP (n+3),kP (n+3),.vec 4 0 [aZ]]|some v=>[kV v (n+6) (n+4) (n+3),kV v (n+6) (n+4) (n+3),kP (n+3),.vec 4 v.vs (v.ss.map zw),.vec 5 v.vc (v.cs.map bK),.hole,.vec 5 v.ve (v.ev.map bK)]
def HP (n:Nat):Option HV->AVal
 |none=>.agg [Nl,Nl,.az (n+3) 0 1]|some v=>.agg [.az (n+6) v.ve v.ev.length,.az (n+4) v.vc v.lc,.az (n+3) v.vs v.ls]
def HQ (n:Nat):(Int×Int)⊕Option HV->AVal
 | .inl x=>.aI [.agg [Nl,Nl,Nl],Iv x.1,Iv x.2]| .inr o=>.aI [HP n o,Iv 0,Iv 0]
def LR (n:Nat):(Int×Int)⊕Option HV->qh
 | .inl _=>[]| .inr o=>LQ n o
theorem zkk {n i k:Nat}:Nat.blt (n+i) (n+k)=Nat.blt i k:=by
 rw[Bool.eq_iff_iff];simp only[Nat.blt_eq];omega
theorem j6a {n i:Nat}:Nat.blt (n+i) n=Ga:=by
 rw[Bool.eq_false_iff];intro h;rw[Nat.blt_eq]at h;omega
theorem lg0 {n:Nat}{o:Option HV}:(LG n o)[0]?=Gb kO:=by cases o<;>rfl
theorem qsr {n:Nat}{v:AVal}{h:qh}(hv:Abs.below n v=Ga):qz n v h=h:=by
 unfold qz;rw[hv];cases Nat.ble h.length n<;>simp
theorem j77 {H:qh}(hB:qt H.length H=H2){l r}(h:f27 l=Gb r):∃hh,ai pr (X pr) 27 [sl 5 bK l] H=Gb (HQ H.length r,Ga,hh)/\qz H.length (HQ H.length r) hh=H++LR H.length r:=by
 unfold f27 at h;rcases qc h with⟨Y,h⟩|⟨Y,h⟩
 .cases h;refine⟨H++[kO],?_,?_⟩
  .rw[qg (show pr.br 27=Gb AF from rfl) (by simp)];simp only[go_sem,seval,AF,Y,En,Hb,gQ,gR,rG,uk,yl,oq,kl,nH,Gd]<;>rfl
  .rw[show LR H.length (.inl (0,5))=[]from rfl,Hq];exact kx rfl rfl hB
 .obtain⟨d,I,h⟩:=qb h
  have w:ai pr (X pr) 55 [] (H++[kO,.hole])=Gb (.agg [Nl,Nl,.az (H.length+3) 0 1],Ga,H++[kO,.hole,kP (H.length+3),.vec 4 0 [aZ]]):=by
   have w:=@j59 (H++[kO,.hole]);rw[show(H++[kO,.hole]).length=H.length+2 by rw[En];rfl,Gd]at w;exact w
  have wa:qz (H.length+2) (.agg [Nl,Nl,.az (H.length+3) 0 1]) (H++[kO,.hole,kP (H.length+3),.vec 4 0 [aZ]])=H++[kO,.hole,kP (H.length+3),.vec 4 0 [aZ]]:=qsr (by simp[Abs.below,qp,zkk];rfl);have wl:X pr (.loop Dq) ⟨[(2,.ptr H.length 0,Ga),(5,.ptr (H.length+1) 0,Ga),(14,sl 5 bK l,Ga),(15,Lv l,Ga),(16,Iv 0,Ga)],H++[kO,kP (H.length+3),kP (H.length+3),.vec 4 0 [aZ]]⟩=Gb (Dp H l d):=zz (j6c hB l) I;rcases d with⟨d1,d2,d3⟩|⟨d1,d2⟩
  .cases h;simp only[Dp]at wl;refine⟨H++LG H.length d3,?_,?_⟩
   .rw[qg (show pr.br 27=Gb AF from rfl) (by simp)];simp only[go_sem,seval,AF,Y,w,wa,wl,lg0,En,Hb,gQ,gR,rG,uk,yl,oq,kl,nH,Gd]<;>rfl
   .rw[show LR H.length (.inl (d1,d2))=[]from rfl,Hq];exact kx rfl rfl hB
  .cases h;simp only[Dp]at wl;refine⟨H++LQ H.length d2,?_,?_⟩
   .rw[qg (show pr.br 27=Gb AF from rfl) (by simp)];rcases d2 with _|v
    .simp only[LG]at wl;simp only[go_sem,seval,AF,Y,w,wa,wl,HP,LQ,En,Hb,gQ,gR,rG,uk,yl,oq,kl,nH,Gd]<;>rfl
    .simp only[LG]at wl;simp only[go_sem,seval,AF,Y,w,wa,wl,HP,LQ,En,Hb,gQ,gR,rG,uk,yl,oq,kl,nH,Gd]<;>rfl
   .refine qsr ?_;cases d2<;>simp[HQ,HP,Abs.below,qp,j6a]
end Go.Z
namespace Go.Z
open Go Go.Abs Go.W
def LO (n:Nat):Option HV->qh
 |none=>[kP (n+3),kP (n+3),kP (n+3),.vec 4 0 [aZ],kP (n+3)]|some v=>[kV v (n+6) (n+4) (n+3),kV v (n+6) (n+4) (n+3),kP (n+3),.vec 4 v.vs (v.ss.map zw),.vec 5 v.vc (v.cs.map bK),.hole,.vec 5 v.ve (v.ev.map bK),kV v (n+6) (n+4) (n+3)]
def pO (n:Nat):Option HV->Nat
 |none=>n+4|some _=>n+7
def f7 (t:aj):Option (Int×Option (Option HV)):=
 qa (f17 t) fun r=>
 cond (decide (r.2.2=0)||decide (r.2.2=29))
  (qa (f27 r.1) fun d=>match d with
   | .inl x=>cond (decide (x.2=0)) Hc (Gb (x.2,Hc))
   | .inr o=>Gb (0,Gb o))
  (Gb (r.2.2,Hc))
theorem j0l {H:qh}(hB:qt H.length H=H2){t q}(h:f7 t=Gb q):∃hh,ai aB (X aB) 7 [.str t] H=Gb (.aI [(match q.2 with|none=>.bQ|some o=>.ptr (pO H.length o) 0),Iv q.1],Ga,hh)/\(match q.2 with|none=>∃L,hh=H++L|some o=>hh=H++LO H.length o):=by
 unfold f7 at h;obtain⟨r,k1,h⟩:=qb h;have w1:=W17 k1
 have fin:∀(b1 b2:Bool),decide (r.2.2=0)=b1->decide (r.2.2=29)=b2->(b1||b2)=H2->∀d,f27 r.1=Gb d->(match d with
   | .inl x=>cond (decide (x.2=0)) Hc (Gb (x.2,Hc))
   | .inr o=>Gb (0,Gb o))=Gb q->∃hh,ai aB (X aB) 7 [.str t] H=Gb (.aI [(match q.2 with|none=>.bQ|some o=>.ptr (pO H.length o) 0),Iv q.1],Ga,hh)/\(match q.2 with|none=>∃L,hh=H++L|some o=>hh=H++LO H.length o):=by
  intro b1 b2 Y I h3 d k2 h;obtain⟨hh,w2,wa⟩:=j77 hB k2;have w2:=aH.ai w2;rcases d with x|o
  .rcases qc h with⟨h4,h⟩|⟨h4,h⟩
   .cases h
   .cases h;simp only[HQ,LR,Hq]at w2 wa;refine⟨H,?_,[],(Hq _).symm⟩;rw[qg (show aB.br 7=Gb c7 from rfl) (by simp)]
    cases b1<;>cases b2<;>first|exact absurd h3 Ha|(simp only[go_sem,seval,c7,w1,Y,I,w2,wa,h4,En,Hb,gQ,gR,rG,uk,yl,oq,kl,nH,Gd]<;>rfl)
  .cases h;rcases o with _|v
   .simp only[HQ,HP,LR,LQ]at w2 wa;refine⟨H++LO H.length Hc,?_,rfl⟩;rw[qg (show aB.br 7=Gb c7 from rfl) (by simp)]
    cases b1<;>cases b2<;>first|exact absurd h3 Ha|(simp only[go_sem,seval,c7,w1,Y,I,w2,wa,LO,pO,En,Hb,gQ,gR,rG,uk,yl,oq,kl,nH,Gd]<;>rfl)
   .simp only[HQ,HP,LR,LQ]at w2 wa;refine⟨H++LO H.length (Gb v),?_,rfl⟩;rw[qg (show aB.br 7=Gb c7 from rfl) (by simp)]
    cases b1<;>cases b2<;>first|exact absurd h3 Ha|(simp only[go_sem,seval,c7,w1,Y,I,w2,wa,LO,pO,En,Hb,gQ,gR,rG,uk,yl,oq,kl,nH,Gd]<;>rfl)
 rcases qc h with⟨h3,h⟩|⟨h3,h⟩
 .obtain⟨d,k2,h⟩:=qb h;exact fin _ _ rfl rfl h3 d k2 h
 .cases h;refine⟨H,?_,[],(Hq _).symm⟩;rw[Ig]at h3;have Y:=h3.1;have I:=h3.2;rw[qg (show aB.br 7=Gb c7 from rfl) (by simp)];simp only[go_sem,seval,c7,w1,Y,I,En,Hb]<;>rfl
theorem jc9 {H:qh}(hB:qt H.length H=H2)(o:Option HV):qt (H++LO H.length o).length (H++LO H.length o)=H2:=by
 refine grown hB ?_;rw[En]
 cases o with
 |none=>simp[LO,qt,zj,zq,vK];rfl|some v=>simp[LO,qt,zj,zq,vK];rfl
def SS.open (H:qh)(o:Option HV):SS:=⟨H++LO H.length o,pO H.length o,H.length+6,H.length+4,H.length+3,o⟩
theorem SS.qD {H:qh}(hB:qt H.length H=H2)(o:Option HV):(SS.open H o).ok:=by
 cases o with
 |none=>
  have D:D2 (H++LO H.length Hc) (H.length+4) (H.length+3):=by
   constructor<;>first|omega|(rw[En];simp[LO])
  exact(⟨D,(yl _ 4),(yl _ 3),jc9 hB Hc⟩:gS (H++LO H.length Hc) (H.length+4) (H.length+3))
 |some s=>
  have D:D4 (H++LO H.length (Gb s)) (H.length+7) (H.length+6) (H.length+4) (H.length+3):=by
   constructor<;>first|omega|(rw[En];simp[LO])
  exact(⟨D,(yl _ 7),(yl _ 6),(yl _ 4),(yl _ 3),jc9 hB _⟩:lD (H++LO H.length (Gb s)) (H.length+7) (H.length+6) (H.length+4) (H.length+3) s)
end Go.Z
namespace Go.Z
open Go Go.Abs Go.W
theorem jb9 {n:Nat}{v:AVal}{x:aM}{h:qh}{i:Nat}(hi:h[i]?=Gb x)(hn:i<n)(M:zj n x=Ga):qz n v h=h:=by
 unfold qz
 have ht:(h.take n)[i]?=Gb x:=by rw[If,if_pos hn];exact hi
 rw[LV M ht,Bool.and_false];cases Nat.ble h.length n<;>rfl
theorem DoG {H:qh}{p:Nat}{e0 x1 x2:AVal×Bool}{o:Option HV}{aae:Option HV->qh}(hp:qv H p=Gb [e0,x1,x2])(hl:∀h,vF 1 h (Gb e0.1)=Gb ⟨Iv (((ga o).length:Nat):Int),Ga,Hc,h⟩)(hB:qt H.length H=H2)
  (dH:∀r,Px o=Gb r->∃L,ai aB (X aB) 103 [.ptr p 0] (H++[fO])=Gb (aR r,Ga,(H++[fO])++L))
  (xH:∀e q,sA o e=Gb q->∃hh,ai aB (X aB) 42 [.ptr p 0,aE e] (H++[fO,kC])=Gb (Iv q.1,Ga,hh)/\qz (H.length+2) (Iv q.1) hh=aae q.2)
  {line:aj} {q} (h:HM o line=Gb q):∃hh,ai aB (X aB) 10 [.ptr p 0,.str line] H=Gb (.aI [.str q.1,Iv q.2.1],Ga,hh)/\((q.2.2=o/\∃L,hh=H++L)\/(hh=aae q.2.2/\∃e y,sA o e=Gb y/\y.2=q.2.2)):=by
 unfold HM at h;obtain⟨e1,k1,h⟩:=qb h;obtain⟨e2,k2,h⟩:=qb h;obtain⟨e3,k3,h⟩:=qb h;rcases qc h with⟨h3,h⟩|⟨h3,h⟩
 .obtain⟨l,k4,h⟩:=qb h;obtain⟨w,k5,h⟩:=qb h
  cases kq:jS w with
  |some f=>
   rw[kq]at h;obtain⟨r,Q,h⟩:=qb h;obtain⟨a,ka,h⟩:=qb h;cases h;obtain⟨L,hn⟩:=dH r Q;exact⟨_,jsv k1 k2 k3 h3 k4 k5 kq hn (grown hB jed) ka,.inl ⟨rfl,_,rfl⟩⟩
  |none=>
   rw[kq]at h;rcases qc h with⟨kf,h⟩|⟨kf,h⟩
   .obtain⟨x,k6,h⟩:=qb h;obtain⟨e4,k7,h⟩:=qb h;obtain⟨e5,k8,h⟩:=qb h;obtain⟨e6,k9,h⟩:=qb h;rcases qc h with⟨h6,h⟩|⟨h6,h⟩
    .obtain⟨c,AE,h⟩:=qb h;rcases qc h with⟨hc,h⟩|⟨hc,h⟩
     .obtain⟨y,hy,h⟩:=qb h;obtain⟨hh,ka,kw⟩:=xH x.1 y hy;rcases qc h with⟨hq,h⟩|⟨hq,h⟩
      .obtain⟨s,k11,h⟩:=qb h;obtain⟨t,k12,h⟩:=qb h;cases h;exact⟨_,jtj k1 k2 k3 h3 k4 k5 hp hl kq kf k6 k7 k8 k9 h6 AE hc ka kw hq k11 k12,.inr ⟨rfl,_,_,hy,rfl⟩⟩
      .cases h;exact⟨_,jyp k1 k2 k3 h3 k4 k5 hp hl kq kf k6 k7 k8 k9 h6 AE hc ka kw hq,.inr ⟨rfl,_,_,hy,rfl⟩⟩
     .cases h;exact⟨_,jl0 k1 k2 k3 h3 k4 k5 hp hl kq kf k6 k7 k8 k9 h6 AE hc,.inl ⟨rfl,_,rfl⟩⟩
    .cases h;exact⟨_,jmu k1 k2 k3 h3 k4 k5 hp hl kq kf k6 k7 k8 k9 h6,.inl ⟨rfl,_,rfl⟩⟩
   .cases h;exact⟨_,jvl k1 k2 k3 h3 k4 k5 kq kf,.inl ⟨rfl,_,rfl⟩⟩
 .cases h;exact⟨_,j0o k1 k2 k3 h3,.inl ⟨rfl,[],(Hq _).symm⟩⟩
theorem DoS {S:SS}(hS:S.ok){line:aj}{q}(h:HM S.v line=Gb q):∃hh,ai aB (X aB) 10 [.ptr S.p 0,.str line] S.H=Gb (.aI [.str q.1,Iv q.2.1],Ga,hh)/\qz S.H.length (.aI [.str q.1,Iv q.2.1]) hh=(S.next q.2.2).H/\(S.next q.2.2).ok/\(S.next q.2.2).v=q.2.2/\(S.next q.2.2).p=S.p:=by
 obtain⟨H,p,a,b,c,v⟩:=S
 have qM:∀n,Abs.below n (.aI [.str q.1,Iv q.2.1])=H2:=fun n=>by simp only[go_sem,seval]
 cases v with
 |none=>
  have V:gS H p c:=hS;have s2:gS (H++[fO,kC]) p c:=V.app qp6
  have eA:(H++[fO,kC]).length=H.length+2:=by rw[En];rfl
  obtain⟨hh,w1,w2⟩:=DoG (H:=H) (p:=p) (o:=none) (aae:=fun o=>match o with
    |none=>H++[fO,kC]
    |some v=>Ay (H++[fO,kC]) p c v) (Ax V.hp) (fun h=>rfl) V.mR
   (fun r Q=>by
    cases Q
    exact⟨_,aH.ai (Q7 (x0:=(Nl,Ga)) (x1:=(Nl,Ga)) (vs:=0) (ls:=1) (ss:=[eb]) (r:=eb) (C8 (Ax V.hp) _) (pf V.hc _) rfl)⟩)
   (fun e y hy=>by
    obtain⟨hh,g1,g2⟩:=jkr s2.d s2.mR (e:=e) (q:=y) hy;rw[s2.eq]at g1 g2;rw[eA]at g2;refine⟨hh,aH.ai g1,?_⟩;rw[g2]
    cases y.2<;>rfl) h
  refine⟨hh,w1,?_⟩;rcases w2 with⟨e1,L,rfl⟩|⟨rfl,e,y,hy,hy2⟩
  .rw[e1];exact⟨kx rfl (qM _) V.mR,V,rfl,rfl⟩
  .cases hq:q.2.2 with
   |none=>exact⟨kx rfl (qM _) V.mR,V,rfl,rfl⟩
   |some v=>
    have hf:=lD.first (s:=v) s2.d s2.mR;rw[eA]at hf;refine⟨?_,hf,rfl,rfl⟩;refine jb9 hf.hp V.d.lp ?_;simp[zj,zq,vK];omega
 |some s=>
  have V:lD H p a b c s:=hS;have s2:lD (H++[fO,kC]) p a b c s:=V.app qp6
  have eA:(H++[fO,kC]).length=H.length+2:=by rw[En];rfl
  obtain⟨hh,w1,w2⟩:=DoG (H:=H) (p:=p) (o:=Gb s) (aae:=fun o=>match o with
    |none=>H
    |some v=>sH (H++[fO,kC]) p a b c v) (Ax V.hp) (fun h=>rfl) V.mR
   (fun r Q=>⟨_,aH.ai (Q7 (x0:=(.az a s.ve s.ev.length,Ga)) (x1:=(.az b s.vc s.lc,Ga)) (vs:=s.vs) (ls:=s.ls) (ss:=s.ss) (r:=r) (C8 (Ax V.hp) _) (pf V.hc _) Q)⟩)
   (fun e y hy=>by
    obtain⟨z,hz,hy⟩:=qb hy;cases hy;obtain⟨hh,g1,g2⟩:=jrv s2.d s2.mR (e:=e) (q:=z) hz;rw[show cO (H++[fO,kC]) p a b c (kV s a b c) (.vec 5 s.ve (s.ev.map bK)) (.vec 5 s.vc (s.cs.map bK)) (.vec 4 s.vs (s.ss.map zw))=H++[fO,kC]from s2.eq]at g1;rw[eA]at g2
    exact⟨hh,aH.ai g1,g2⟩) h
  refine⟨hh,w1,?_⟩;rcases w2 with⟨e1,L,rfl⟩|⟨rfl,e,y,hy,hy2⟩
  .rw[e1];refine⟨?_,?_,rfl,rfl⟩
   .show qz H.length _ (H++L)=sH H p a b c s;rw[V.eq];exact kx rfl (qM _) V.mR
   .exact lD.iE V.d V.mR
  .cases hq:q.2.2 with
   |none=>
    exfalso;obtain⟨z,hz,hy⟩:=qb hy;cases hy;rw[hq]at hy2;cases hy2
   |some v=>
    refine⟨?_,lD.iE V.d V.mR,rfl,rfl⟩;show qz H.length _ (sH (H++[fO,kC]) p a b c v)=sH H p a b c v;rw[show sH (H++[fO,kC]) p a b c v=sH H p a b c v++[fO,kC]from jt3 V.d];exact kx Rg (qM _) (LM V.mR (Hy V.d.la V.d.lb V.d.lc) rfl rfl rfl)
end Go.Z
namespace Go.Z
open Go Go.Abs Go.W
def Rh (S:SS):Bool:=@decide S.ok (Classical.propDecidable _)
theorem HR {S:SS}:Rh S=H2↔S.ok:=by unfold Rh;simp
theorem zg6 {O:ak aC}{J:aj}{r}(h:f9 O J=Gb r):ae aB (X aB) 9 [sl 5 bK O,.str J]=Gb (.aI [aE r.1,.bool r.2.1,.str r.2.2.1,.int .i64 r.2.2.2],Ga):=aH.ae (W9 h)
theorem gcS {S:SS}(hS:S.ok)(o:Option HV){e:Env}:gc S.H.length ⟨e,(S.next o).H⟩=⟨e,(S.next o).H⟩:=by
 obtain⟨H,p,a,b,c,v⟩:=S
 cases v with
 |none=>
  have V:gS H p c:=hS
  cases o with
  |none=>exact yg (Ij _)
  |some v=>
   have s2:gS (H++[fO,kC]) p c:=V.app qp6
   have eA:(H++[fO,kC]).length=H.length+2:=by rw[En];rfl
   have hf:=lD.first (s:=v) s2.d s2.mR;rw[eA]at hf;refine jdm ?_
   have hg:((Ay (H++[fO,kC]) p c v).take H.length)[p]?=Gb (kV v (H.length+4) (H.length+2) c):=by
    rw[If,if_pos V.d.lp];exact hf.hp
   refine LV ?_ hg;simp[zj,zq,vK];omega
 |some s=>
  cases o with
  |none=>exact yg (Ij _)|some v=>exact yg (Nat.le_of_eq Rg)
def sK (ls:ak aj)(x:ak aC×Bool×SS×Int):Option ((ak aC×Bool×SS×Int)⊕((Bool×SS)⊕(ak aC×Bool×SS×Int))):=
 cond (decide (x.2.2.2<((ls.getD []).length:Int)))
  (cond (Rh x.2.2.1)
   (qa (ql (ls.getD []) x.2.2.2) fun line=>
   cond (decide (300<(line.length:Int))&&!decide ((line.length:Int)=4097))
    (qa (E5) fun v=>Gb (.inr (.inl (v,x.2.2.1))))
    (qa (f9 x.1 line) fun r=>
    qa (HM x.2.2.1.v line) fun q=>
    cond (decide (q.2.1=r.2.2.2))
     (cond (decide (q.1=r.2.2.1))
      (cond r.2.1
       (qa (bB (Gb []) (x.1.getD [])) fun v1=>
       qa (bB v1 [r.1]) fun v2=>
       Gb (.inl (v2,H2,x.2.2.1.next q.2.2,qd .i64 (x.2.2.2+1))))
       (Gb (.inl (x.1,x.2.1,x.2.2.1.next q.2.2,qd .i64 (x.2.2.2+1)))))
      (Gb (.inr (.inl (Ga,x.2.2.1.next q.2.2)))))
     (Gb (.inr (.inl (Ga,x.2.2.1.next q.2.2))))))
   Hc)
  (Gb (.inr (.inr x)))
def wH (ls:ak aj)(x:ak aC×Bool×SS×Int):bg:=⟨[(5,sl 5 bK x.1,x.2.1),(8,.ptr x.2.2.1.p 0,Ga),(69,sl 1 qx ls,Ga),(70,Lv ls,Ga),(71,Iv x.2.2.2,Ga)],x.2.2.1.H⟩
def yC (ls:ak aj):(Bool×SS)⊕(ak aC×Bool×SS×Int)->q9×bg
 | .inl d=>(.ret,⟨[(4,.bool d.1,Ga)],d.2.H⟩)| .inr x=>(.exit 0,⟨[(5,sl 5 bK x.1,x.2.1),(8,.ptr x.2.2.1.p 0,Ga),(69,sl 1 qx ls,Ga),(70,Lv ls,Ga),(71,Iv x.2.2.2,Ga),(72,.bool Ga,Ga)],x.2.2.1.H⟩)
theorem zf4 (ls:ak aj)(x:ak aC×Bool×SS×Int)(r)(h:sK ls x=Gb r):jo aB wI (wH ls) (yC ls) x r:=by
 obtain⟨es,w,S,i⟩:=x;unfold sK at h;rcases qc h with⟨Y,h⟩|⟨Y,h⟩
 .rcases qc h with⟨hk,h⟩|⟨_,h⟩
  .have hS:S.ok:=HR.1 hk;obtain⟨line,I,h⟩:=qb h;rcases qc h with⟨h3,h⟩|⟨h3,h⟩
   .obtain⟨v,h4,h⟩:=qb h;have w4:=W5 h4;cases h;rw[Bool.and_eq_true,Bool.not_eq_true']at h3;have fA:=h3.1;have rj:=h3.2;exact qn (by simp only[go_sem,seval,wI,wH,Y,jn I,fA,rj,w4,yC]<;>rfl)
   .obtain⟨r1,h4,h⟩:=qb h;obtain⟨q,h5,h⟩:=qb h;have w4:=zg6 h4;obtain⟨hh,w5,wa,k1,k2,k3⟩:=DoS hS h5
    have key:∀b1 b2,decide (300<(line.length:Int))=b1->decide ((line.length:Int)=4097)=b2->(b1&&!b2)=Ga->jo aB wI (wH ls) (yC ls) (es,w,S,i) r:=by
     intro b1 b2 fA rj oY;rcases qc h with⟨h6,h⟩|⟨h6,h⟩
     .rcases qc h with⟨h7,h⟩|⟨h7,h⟩
      .rcases qc h with⟨h8,h⟩|⟨h8,h⟩
       .obtain⟨v1,h9,h⟩:=qb h;obtain⟨v2,eh,h⟩:=qb h;cases h
        cases b1<;>cases b2<;>first|exact absurd oY.symm Ha|exact z5 (bH:=wH ls (v2,H2,S.next q.2.2,qd .i64 (i+1))) (by simp only[go_sem,seval,wI,wH,Y,jn I,fA,rj,w4,w5,wa,k3,h6,h7,h8,q4r h9,J3 eh]<;>rfl) (gcS hS q.2.2)
       .cases h
        cases b1<;>cases b2<;>first|exact absurd oY.symm Ha|exact z5 (bH:=wH ls (es,w,S.next q.2.2,qd .i64 (i+1))) (by simp only[go_sem,seval,wI,wH,Y,jn I,fA,rj,w4,w5,wa,k3,h6,h7,h8]<;>rfl) (gcS hS q.2.2)
      .cases h
       cases b1<;>cases b2<;>first|exact absurd oY.symm Ha|exact qn (by simp only[go_sem,seval,wI,wH,Y,jn I,fA,rj,w4,w5,wa,k3,h6,h7,yC]<;>rfl)
     .cases h
      cases b1<;>cases b2<;>first|exact absurd oY.symm Ha|exact qn (by simp only[go_sem,seval,wI,wH,Y,jn I,fA,rj,w4,w5,wa,k3,h6,yC]<;>rfl)
    exact key _ _ rfl rfl h3
  .cases h
 .cases h;exact qn (by simp only[go_sem,seval,wI,wH,Y,yC]<;>rfl)
end Go.Z
namespace Go.Z
open Go Go.Abs Go.W
def evF:Option HV->Option (ak aC×Bool)
 |none=>Gb (Hc,Ga)|some s=>HD s.ev
def jmd:Option HV->Option aj
 |none=>Gb []|some s=>f13 s.ev
theorem jth {S:SS}(hS:S.ok){r}(h:evF S.v=Gb r):ai aB (X aB) 12 [.ptr S.p 0] S.H=Gb (sl 5 bK r.1,r.2,S.H):=by
 obtain⟨H,p,a,b,c,v⟩:=S
 cases v with
 |none=>
  have V:gS H p c:=hS;cases h;exact aH.ai (jmv (Ax V.hp))
 |some s=>
  have V:lD H p a b c s:=hS;exact aH.ai (jpm (Ax V.hp) V.ha V.mR h)
theorem zj8 {S:SS}(hS:S.ok){t}(h:jmd S.v=Gb t):ai aB (X aB) 13 [.ptr S.p 0] S.H=Gb (.str t,Ga,S.H):=by
 obtain⟨H,p,a,b,c,v⟩:=S
 cases v with
 |none=>
  have V:gS H p c:=hS;cases h;exact j75 (Ax V.hp)
 |some s=>
  have V:lD H p a b c s:=hS;exact j8u (Ax V.hp) V.ha h
def Ri (x:ak aC×Bool×SS×Int):Option Bool:=
 cond (Rh x.2.2.1)
  (qa (evF x.2.2.1.v) fun ev=>
  qa (f11 ev.1 x.1) fun b=>
  cond b
   (qa (jmd x.2.2.1.v) fun t=>
   qa (f14 x.1) fun t2=>
   cond (decide (t=t2)) (E5) (Gb Ga))
   (Gb Ga))
  Hc
def f3 (O:aj)(J:ak aj):Option Bool:=
 cond (decide (1500<(O.length:Int))||decide (8<((J.getD []).length:Int)))
  (E5)
  (qa (f6 O) fun r=>
  qa (f7 O) fun h=>
  qa (cond (decide (r.2.2=29)||decide (r.2.2=0)) (qa (f8 r.1) fun v=>Gb v.2.2) (Gb r.2.2)) fun k=>
  cond (decide (k=0))
   (match h.2 with
   |none=>Gb Ga
   |some o=>cond (decide (h.1=0))
     (qa (bd (sK J) (r.1,Ga,SS.open [] o,0)) fun d=>match d with
      | .inl b=>Gb b.1
      | .inr x=>Ri x)
     (Gb Ga))
   (match h.2 with
   |none=>cond (decide (h.1=k)) (E5) (Gb Ga)
   |some _=>Gb Ga))
theorem zi5 {O:aj}{r}(h:f6 O=Gb r):ae aB (X aB) 6 [.str O]=Gb (.aI [sl 5 bK r.1,.int .i64 r.2.1,.int .i64 r.2.2],Ga):=aH.ae (W6 h)
theorem zeb {O r}(h:f8 O=Gb r):ae aB (X aB) 8 [sl 5 bK O]=Gb (.aI [aR r.1,Iv r.2.1,Iv r.2.2],Ga):=aH.ae (W8 h)
theorem zjk {O:ak aC}{J:ak aC}{r}(h:f11 O J=Gb r):ae aB (X aB) 11 [sl 5 bK O,sl 5 bK J]=Gb (.bool r,Ga):=aH.ae (W11 h)
theorem zh7 {O:ak aC}{r}(h:f14 O=Gb r):ae aB (X aB) 14 [sl 5 bK O]=Gb (.str r,Ga):=aH.ae (W14 h)
theorem jre {t q}(h:f7 t=Gb q):(q.2=Hc/\∃hh,ai aB (X aB) 7 [.str t] []=Gb (.aI [.bQ,Iv q.1],Ga,hh)/\qz 0 (.aI [.bQ,Iv q.1]) hh=[])\/(∃o,q.2=Gb o/\(SS.open [] o).ok/\ai aB (X aB) 7 [.str t] []=Gb (.aI [.ptr (SS.open [] o).p 0,Iv q.1],Ga,(SS.open [] o).H)/\qz 0 (.aI [.ptr (SS.open [] o).p 0,Iv q.1]) (SS.open [] o).H=(SS.open [] o).H):=by
 obtain⟨hh,w1,w2⟩:=j0l (H:=[]) rfl h
 cases hq:q.2 with
 |none=>
  rw[hq]at w1 w2;obtain⟨L,rfl⟩:=w2;exact .inl ⟨rfl,_,w1,kx (h:=[]) rfl rfl rfl⟩
 |some o=>
  rw[hq]at w1 w2;subst w2;exact .inr ⟨o,rfl,SS.qD rfl o,w1,qsr rfl⟩
theorem jbl {H:qh}:ai aB (X aB) 12 [.bQ] H=Gb (Nl,Ga,H):=aH.ai jhm
theorem W3 {O:aj}{J:ak aj}{r}(h:f3 O J=Gb r):ae aB (X aB) 3 [.str O,sl 1 qx J]=Gb (.bool r,Ga):=by
 suffices this:∃hh,ai aB (X aB) 3 [.str O,sl 1 qx J] []=Gb (.bool r,Ga,hh) by
  obtain⟨hh,this⟩:=this;exact je rfl this (by first|rfl|simp only[go_sem,seval]) (by first|rfl|simp only[go_sem,seval])
 rw[qg (show aB.br 3=Gb c3 from rfl) (by simp)];unfold f3 at h;rcases qc h with⟨Y,h⟩|⟨Y,h⟩
 .have w1:=W5 h
  cases g1:decide (1500<(O.length:Int))with
  |true=>simp only[go_sem,seval,c3,g1,w1];exact⟨_,rfl⟩
  |false=>
   have g2:decide (8<((J.getD []).length:Int))=H2:=by rw[g1,Bool.false_or]at Y;exact Y
   simp only[go_sem,seval,c3,g1,g2,w1];exact⟨_,rfl⟩
 .rw[Ig]at Y;have g1:=Y.1;have g2:=Y.2;obtain⟨v31,I,h⟩:=qb h;obtain⟨q,h3,h⟩:=qb h;obtain⟨k,h4,h⟩:=qb h;have rH:=zi5 I
  have Dr:q.2=Hc->∃hh,ai aB (X aB) 7 [.str O] []=Gb (.aI [.bQ,Iv q.1],Ga,hh)/\qz 0 (.aI [.bQ,Iv q.1]) hh=[]:=fun hq=>by
   rcases jre h3 with⟨_,x⟩|⟨o,x,_⟩
   .exact x
   .rw[hq]at x;cases x
  have uq:∀o,q.2=Gb o->(SS.open [] o).ok/\ai aB (X aB) 7 [.str O] []=Gb (.aI [.ptr (SS.open [] o).p 0,Iv q.1],Ga,(SS.open [] o).H)/\qz 0 (.aI [.ptr (SS.open [] o).p 0,Iv q.1]) (SS.open [] o).H=(SS.open [] o).H:=fun o hq=>by
   rcases jre h3 with⟨x,_⟩|⟨o',x,y⟩
   .rw[hq]at x;cases x
   .rw[hq]at x;cases x;exact y
  by_cases hgg:v31.2.2=29\/v31.2.2=0
  .have gg:(decide (v31.2.2=29)=H2/\decide (v31.2.2=0)=Ga)\/(decide (v31.2.2=29)=Ga/\decide (v31.2.2=0)=H2):=by
    rcases hgg with e|e<;>rw[e]
    .exact .inl ⟨rfl,rfl⟩
    .exact .inr ⟨rfl,rfl⟩
   rw[show(decide (v31.2.2=29)||decide (v31.2.2=0))=H2 by rcases gg with⟨g,k⟩|⟨g,k⟩<;>rw[g,k]<;>rfl,cond_true]at h4;obtain⟨oj,h5,h4⟩:=qb h4;cases h4;have wJ:=zeb h5;rcases qc h with⟨gk,h⟩|⟨gk,h⟩
   .cases hq:q.2 with
    |none=>
     rw[hq]at h;cases h;obtain⟨hh,mS,eY⟩:=Dr hq
     cases g9:decide (q.1=0)with
     |true=>
      rcases gg with⟨fH,g0⟩|⟨fH,g0⟩<;>(simp only[go_sem,seval,c3,g1,g2,rH,mS,eY,fH,g0,wJ,gk,g9];exact⟨_,rfl⟩)
     |false=>
      rcases gg with⟨fH,g0⟩|⟨fH,g0⟩<;>(simp only[go_sem,seval,c3,g1,g2,rH,mS,eY,fH,g0,wJ,gk,g9];exact⟨_,rfl⟩)
    |some o=>
     rw[hq]at h;obtain⟨dG,mS,eY⟩:=uq o hq;generalize hS:SS.open [] o=S at *;rcases qc h with⟨g9,h⟩|⟨g9,h⟩
     .obtain⟨d,hd,h⟩:=qb h;have wl:X aB (.loop wI) ⟨[(5,sl 5 bK v31.1,Ga),(8,.ptr S.p 0,Ga),(69,sl 1 qx J,Ga),(70,Lv J,Ga),(71,Iv 0,Ga)],S.H⟩=Gb (yC J d):=(by rw[show SS.open [] o=S from hS]at hd;exact zz (zf4 J) hd);rcases d with d|⟨es,w,T,n⟩
      .cases h;simp only[yC]at wl;rcases gg with⟨fH,g0⟩|⟨fH,g0⟩<;>(simp only[go_sem,seval,c3,g1,g2,rH,mS,eY,fH,g0,wJ,gk,g9,wl];exact⟨_,rfl⟩)
      .simp only[yC]at wl;unfold Ri at h;rcases qc h with⟨hT,h⟩|⟨_,h⟩
       .have hT:=HR.1 hT;have wz:∀v,qz T.H.length v T.H=T.H:=fun v=>zp rfl;obtain⟨ev,h5,h⟩:=qb h;obtain⟨b,h6,h⟩:=qb h;have w5:=jth hT h5;have w6:=zjk h6;rcases qc h with⟨h7,h⟩|⟨h7,h⟩
        .obtain⟨t,h8,h⟩:=qb h;obtain⟨t2,h9,h⟩:=qb h;have w8:=zj8 hT h8;have w9:=zh7 h9;rcases qc h with⟨eh,h⟩|⟨eh,h⟩
         .have Cs:=W5 h;rcases gg with⟨fH,g0⟩|⟨fH,g0⟩<;>(simp only[go_sem,seval,c3,g1,g2,rH,mS,eY,fH,g0,wJ,gk,g9,wl,wz,jaz,w5,w6,h7,w8,w9,eh,jbl,ju0,Cs];exact⟨_,rfl⟩)
         .cases h;rcases gg with⟨fH,g0⟩|⟨fH,g0⟩<;>(simp only[go_sem,seval,c3,g1,g2,rH,mS,eY,fH,g0,wJ,gk,g9,wl,wz,jaz,w5,w6,h7,w8,w9,eh];exact⟨_,rfl⟩)
        .cases h;rcases gg with⟨fH,g0⟩|⟨fH,g0⟩<;>(simp only[go_sem,seval,c3,g1,g2,rH,mS,eY,fH,g0,wJ,gk,g9,wl,wz,jaz,w5,w6,h7];exact⟨_,rfl⟩)
       .cases h
     .cases h;rcases gg with⟨fH,g0⟩|⟨fH,g0⟩<;>(simp only[go_sem,seval,c3,g1,g2,rH,mS,eY,fH,g0,wJ,gk,g9];exact⟨_,rfl⟩)
   .cases hq:q.2 with
    |none=>
     rw[hq]at h;obtain⟨hh,mS,eY⟩:=Dr hq;rcases qc h with⟨g9,h⟩|⟨g9,h⟩
     .have Cs:=W5 h;rcases gg with⟨fH,g0⟩|⟨fH,g0⟩<;>(simp only[go_sem,seval,c3,g1,g2,rH,mS,eY,fH,g0,wJ,gk,g9,Cs];exact⟨_,rfl⟩)
     .cases h;rcases gg with⟨fH,g0⟩|⟨fH,g0⟩<;>(simp only[go_sem,seval,c3,g1,g2,rH,mS,eY,fH,g0,wJ,gk,g9];exact⟨_,rfl⟩)
    |some o=>
     rw[hq]at h;cases h;obtain⟨dG,mS,eY⟩:=uq o hq;generalize hS:SS.open [] o=S at *;rcases gg with⟨fH,g0⟩|⟨fH,g0⟩<;>(simp only[go_sem,seval,c3,g1,g2,rH,mS,eY,fH,g0,wJ,gk];exact⟨_,rfl⟩)
  .have fH:=decide_eq_false (fun e=>hgg (.inl e));have g0:=decide_eq_false (fun e=>hgg (.inr e));simp only[fH,g0,Bool.or_false,cond_false]at h4;cases h4;rw[g0]at h;replace h:(match q.2 with|none=>cond (decide (q.1=v31.2.2)) (E5) (Gb Ga)|some _=>Gb Ga)=Gb r:=h
   cases hq:q.2 with
   |none=>
    rw[hq]at h;obtain⟨hh,mS,eY⟩:=Dr hq;rcases qc h with⟨g9,h⟩|⟨g9,h⟩
    .have Cs:=W5 h;simp only[go_sem,seval,c3,g1,g2,rH,mS,eY,fH,g0,g9,Cs];exact⟨_,rfl⟩
    .cases h;simp only[go_sem,seval,c3,g1,g2,rH,mS,eY,fH,g0,g9];exact⟨_,rfl⟩
   |some o=>
    rw[hq]at h;cases h;obtain⟨dG,mS,eY⟩:=uq o hq;generalize hS:SS.open [] o=S at *;simp only[go_sem,seval,c3,g1,g2,rH,mS,eY,fH,g0];exact⟨_,rfl⟩
end Go.Z
namespace Go.Z
open Go Go.Abs Go.W
structure ShE (e:aC):Prop where
 k:e.kind.length<=40
 n:(e.names.getD []).length<=6
 v:(e.values.getD []).length<=8
 s:∀x∈e.names.getD [],x.length<=40
theorem L4:∀ {l:List aj},(∀w∈l,w.length<=40)->(Lib.joinTail [32] l).length<=l.length*41
 | [],_=>by simp[Lib.joinTail]
 |x::l,h=>by
  have Y:=h x (List.mem_cons_self ..);have I:=L4 fun w hw=>h w (List.mem_cons_of_mem _ hw);rw[Ho];simp only[En,Ik,List.length_nil];omega
theorem Rj {v:Int}(h0:0<=v)(Y:v<1000000000):(Lib.itoa v).length<=40:=by
 rw[Lr h0];have:=Hn 8 v.toNat (by omega);omega
theorem q5f {e:aC}(s:ShE e)(h:jj e.er=0):QK e/\(jZ e.er).length<=900000:=by
 obtain⟨Y,I,_,_,h5,_⟩:=Rk h;have h5:∀v∈e.values.getD [],0<=v/\v<1000000000:=fun v hv=>⟨(h5 v hv).1,by have:=(h5 v hv).2;omega⟩;have Y:1<=e.number:=Y;have I:e.number<=1000:=I;have ha:=s.n;have hb:=s.v;have hk:=s.k
 have hlb:(jA e.er).length<=10000:=by
  rw[qx7];have l1:=L4 (l:=e.names.getD []) s.s
  have l2:=L4 (l:=(e.values.getD []).map Lib.itoa) fun w hw=>by
   obtain⟨v,hv,rfl⟩:=List.mem_map.1 hw;exact Rj (h5 v hv).1 (h5 v hv).2
  have l3:=Rj (v:=e.number) (by omega) (by omega);rw[List.length_map]at l2;simp only[En,List.length_singleton];show(Lib.itoa e.number).length+1+e.kind.length+(Lib.joinTail [32] (e.names.getD [])).length+(Lib.joinTail [32] ((e.values.getD []).map Lib.itoa)).length<=10000;omega
 refine⟨⟨⟨by omega,by omega⟩,h5,by omega,by omega,by omega⟩,?_⟩;have:=q3k e.er;omega
theorem jki:∀ {l:List cQ} {e},e∈l->(jZ e).length<=(gX l).length
 |x::l,e,h=>by
  rw[gX,En,Ik];rcases Io.1 h with rfl|h
  .omega
  .have:=jki h;omega
theorem q4v:∀ {l:List cQ} {k e},L5 k l->e∈l->jj e=0
 |x::l,k,e,h,hm=>by
  rcases Io.1 hm with rfl|hm
  .exact h.1
  .exact q4v h.2.2 hm
theorem jcy {s:aj}(G:s.length<=90000){e:aC}(h:e.er∈(ui s).1):QK e:=by
 obtain⟨hc,Y,I⟩:=ja1 s;have hk:=q4v hc h;have Q:=jki h;obtain⟨l,q1,q2,q3,t,q4,q5⟩:=qys (s:=s) (a:=0) (out:=[]);have q1':(ui s).1=l:=q1;have q6:=congrArg List.length q4;simp only[En]at q6;rw[q1']at Q;have:=q3k e.er;obtain⟨n1,n2,⟨f,f1,f2,nK⟩,_,n5,_⟩:=Rk hk;have hf:=Hp f1;have f2:(e.names.getD []).length=f.1:=f2;have nK:(e.values.getD []).length=f.2:=nK;have n1:1<=e.number:=n1;have n2:e.number<=1000:=n2;exact⟨⟨by omega,by omega⟩,fun v hv=>⟨(n5 v hv).1,by have:=(n5 v hv).2;omega⟩,by omega,by omega,by omega⟩
theorem q88 {t w}(h:Ls t w){e:aC}(he:e∈t.1.getD []):e.er∈w.1:=by
 rw[<-h.1];exact List.mem_map_of_mem he
end Go.Z
end
