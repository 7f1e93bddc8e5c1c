/- Chapter 10. -/
import Derived.Test.YtlhfdilpecnjeaaGreatDoorCA
set_option linter.all false
set_option maxRecDepth 100000
set_option maxHeartbeats 4000000
noncomputable section
open Option renaming some->En,none->Ha
open Bool renaming false->Ga,true->Gb,and_self->Ii,false_and->I1
open Nat renaming le_of_ble_eq_true->Gd,ble_eq_true_of_le->If,beq_refl->Ij,beq->Ip,blt_eq->Iy
open List renaming getElem?_eq_some_iff->Hb,replicate->Hc,length_set->H2,map->Ig,length_map->Ik,drop_eq_nil_of_le->Io,take_of_length_le->Ir,nil_append->Iu,all->Ix,append_nil->Iz,take_zero->I0
namespace Go.Z
open Go Go.Abs Go.W
def f36 (O:Bool)(J:Int):Option Int:=
 cond O
  (En J)
  (En 0)
theorem dI {O J r}(h:f36 O J=En r):ae pr (X pr) 36 [.bool O,Iv J]=En (Iv r,Ga):=by
 unfold f36 at h;refine jz c36 ?_
 repeat' first|(replace h:=qc h;rcases h with⟨g,h⟩|⟨g,h⟩)
 all_goals (cases h<;>(simp only[go_sem,seval,c36, *];exact⟨_,rfl⟩))
def BX (O:ak Int)(V:Int):Option (Int⊕(Int⊕Int)):=
 cond (decide (V<((O.getD []).length:Int)))
  (qa (ql (O.getD []) V) fun v10=>
  cond (decide (v10=0))
   (En (.inl (qd .i64 (V+1))))
   (En (.inr (.inl v10))))
  (En (.inr (.inr V)))
def Ro (O:ak Int)(V:Int):bg:=⟨[(5,sl 1 zf O,Ga),(6,Lv O,Ga),(7,Iv V,Ga)],[]⟩
def Rp (O:ak Int):Int⊕Int->q9×bg
 | .inl d=>(.ret,⟨[(2,Iv d,Ga)],[]⟩)| .inr d=>(.exit 0,⟨[(5,sl 1 zf O,Ga),(6,Lv O,Ga),(7,Iv d,Ga),(8,.bool Ga,Ga)],[]⟩)
theorem j6f (O:ak Int)(V:Int)(r)(h:BX O V=En r):jo pr Rq (Ro O) (Rp O) V r:=by
 unfold BX at h
 repeat' first|(replace h:=qb h;obtain⟨d,g,h⟩:=h)|(replace h:=qc h;rcases h with⟨g,h⟩|⟨g,h⟩)
 all_goals (cases h<;>((first|refine qn ?_|refine jr ?_);simp only[go_sem,seval,Rq,Ro,ji,Rp, *]<;>rfl))
theorem j6n (O:ak Int){V d}(h:bd (BX O) V=En d):X pr (.loop Rq) (Ro O V)=En (Rp O d):=zz (j6f O) h
def f35 (O:ak Int):Option Int:=
 qa (bd (BX O) 0) fun d13=>match d13 with
  | .inl d15=>
   En d15
  | .inr d16=>
   En 0
theorem gC {O r}(h:f35 O=En r):ae pr (X pr) 35 [sl 1 zf O]=En (Iv r,Ga):=by
 unfold f35 at h;refine jz c35 ?_
 repeat' first|(replace h:=qb h;obtain⟨d,g,h⟩:=h;with_reducible first|(replace g:=j6n O g;rcases d with d|d<;>dsimp only[Ro,Rp,zc]at g h)|skip)|(replace h:=qc h;rcases h with⟨g,h⟩|⟨g,h⟩)
 all_goals (cases h<;>(simp only[go_sem,seval,c35, *];exact⟨_,rfl⟩))
def f124 (O:Int)(J:Int)(a2:Int):Option Int:=
 cond (decide (O<J))
  (qa (f36 Gb 3) fun v2=>
  En v2)
  (qa (f36 (decide (a2<O)) 3) fun v4=>
  En v4)
theorem Rr {O J a2 r}(h:f124 O J a2=En r):ae pr (X pr) 124 [Iv O,Iv J,Iv a2]=En (Iv r,Ga):=by
 unfold f124 at h;refine jz Dt ?_
 repeat' first|(replace h:=qb h;obtain⟨d,g,h⟩:=h;with_reducible first|replace g:=dI g|skip)|(replace h:=qc h;rcases h with⟨g,h⟩|⟨g,h⟩)
 all_goals (cases h<;>(simp only[go_sem,seval,Dt, *];exact⟨_,rfl⟩))
def Ac (O:aj)(V:Int):Option (Int⊕(Unit⊕Int)):=
 cond (decide (V<(O.length:Int)))
  (qa (ql O V) fun v70=>
  cond (decide (65<=(v70.toNat:Int)))
   (cond (decide ((v70.toNat:Int)<=90))
    (cond (decide (48<=(v70.toNat:Int)))
     (cond (decide ((v70.toNat:Int)<=57))
      (En (.inl (qd .i64 (V+1))))
      (En (.inl (qd .i64 (V+1)))))
     (En (.inl (qd .i64 (V+1)))))
    (cond (decide (97<=(v70.toNat:Int)))
     (cond (decide (48<=(v70.toNat:Int)))
      (cond (decide ((v70.toNat:Int)<=57))
       (cond (decide ((v70.toNat:Int)<=122))
        (En (.inl (qd .i64 (V+1))))
        (cond (decide (V=0))
         (En (.inr (.inl ())))
         (En (.inl (qd .i64 (V+1))))))
       (cond (decide ((v70.toNat:Int)<=122))
        (En (.inl (qd .i64 (V+1))))
        (cond (decide (V=0))
         (En (.inr (.inl ())))
         (cond (decide ((v70.toNat:Int)=95))
          (En (.inl (qd .i64 (V+1))))
          (En (.inr (.inl ())))))))
      (cond (decide ((v70.toNat:Int)<=122))
       (En (.inl (qd .i64 (V+1))))
       (cond (decide (V=0))
        (En (.inr (.inl ())))
        (cond (decide ((v70.toNat:Int)=95))
         (En (.inl (qd .i64 (V+1))))
         (En (.inr (.inl ())))))))
     (cond (decide (48<=(v70.toNat:Int)))
      (cond (decide ((v70.toNat:Int)<=57))
       (cond (decide (V=0))
        (En (.inr (.inl ())))
        (En (.inl (qd .i64 (V+1)))))
       (cond (decide (V=0))
        (En (.inr (.inl ())))
        (cond (decide ((v70.toNat:Int)=95))
         (En (.inl (qd .i64 (V+1))))
         (En (.inr (.inl ()))))))
      (cond (decide (V=0))
       (En (.inr (.inl ())))
       (cond (decide ((v70.toNat:Int)=95))
        (En (.inl (qd .i64 (V+1))))
        (En (.inr (.inl ()))))))))
   (cond (decide (97<=(v70.toNat:Int)))
    (cond (decide (48<=(v70.toNat:Int)))
     (cond (decide ((v70.toNat:Int)<=57))
      (cond (decide ((v70.toNat:Int)<=122))
       (En (.inl (qd .i64 (V+1))))
       (cond (decide (V=0))
        (En (.inr (.inl ())))
        (En (.inl (qd .i64 (V+1))))))
      (cond (decide ((v70.toNat:Int)<=122))
       (En (.inl (qd .i64 (V+1))))
       (cond (decide (V=0))
        (En (.inr (.inl ())))
        (cond (decide ((v70.toNat:Int)=95))
         (En (.inl (qd .i64 (V+1))))
         (En (.inr (.inl ())))))))
     (cond (decide ((v70.toNat:Int)<=122))
      (En (.inl (qd .i64 (V+1))))
      (cond (decide (V=0))
       (En (.inr (.inl ())))
       (cond (decide ((v70.toNat:Int)=95))
        (En (.inl (qd .i64 (V+1))))
        (En (.inr (.inl ())))))))
    (cond (decide (48<=(v70.toNat:Int)))
     (cond (decide ((v70.toNat:Int)<=57))
      (cond (decide (V=0))
       (En (.inr (.inl ())))
       (En (.inl (qd .i64 (V+1)))))
      (cond (decide (V=0))
       (En (.inr (.inl ())))
       (cond (decide ((v70.toNat:Int)=95))
        (En (.inl (qd .i64 (V+1))))
        (En (.inr (.inl ()))))))
     (cond (decide (V=0))
      (En (.inr (.inl ())))
      (cond (decide ((v70.toNat:Int)=95))
       (En (.inl (qd .i64 (V+1))))
       (En (.inr (.inl ()))))))))
  (En (.inr (.inr V)))
def Rs (O:aj)(V:Int):bg:=⟨[(0,.str O,Ga),(3,Iv V,Ga)],[]⟩
def Rt (O:aj):Unit⊕Int->q9×bg
 | .inl d=>(.ret,⟨[(2,.bool Ga,Ga)],[]⟩)| .inr d=>(.exit 0,⟨[(0,.str O,Ga),(3,Iv d,Ga),(17,.bool Ga,Ga)],[]⟩)
theorem zam (O:aj)(V:Int)(r)(h:Ac O V=En r):jo pr Ru (Rs O) (Rt O) V r:=by
 unfold Ac at h
 repeat' first|(replace h:=qb h;obtain⟨d,g,h⟩:=h)|(replace h:=qc h;rcases h with⟨g,h⟩|⟨g,h⟩)
 all_goals (cases h<;>((first|refine qn ?_|refine jr ?_);simp only[go_sem,seval,Ru,Rs,BL,Rt, *]<;>rfl))
theorem j8f (O:aj){V d}(h:bd (Ac O) V=En d):X pr (.loop Ru) (Rs O V)=En (Rt O d):=zz (zam O) h
def f78 (O:aj):Option Bool:=
 cond (decide ((O.length:Int)=0))
  (En Ga)
  (cond (decide (24<(O.length:Int)))
   (En Ga)
   (qa (bd (Ac O) 0) fun d112=>match d112 with
    | .inl d114=>
     En Ga
    | .inr d115=>
     En Gb))
theorem W78 {O r}(h:f78 O=En r):ae pr (X pr) 78 [.str O]=En (.bool r,Ga):=by
 unfold f78 at h;refine jz c78 ?_
 repeat' first|(replace h:=qb h;obtain⟨d,g,h⟩:=h;with_reducible first|(replace g:=j8f O g;rcases d with d|d<;>dsimp only[Rs,Rt,zc]at g h)|skip)|(replace h:=qc h;rcases h with⟨g,h⟩|⟨g,h⟩)
 all_goals (cases h<;>(simp only[go_sem,seval,c78, *];exact⟨_,rfl⟩))
def Ad (O:aj):Option (Option (Nat)⊕(Nat⊕Nat)):=
 cond (decide (0<O.length))
  (cond (decide (65<=((qj O 0).1:Int)))
   (cond (decide (((qj O 0).1:Int)<=90))
    (cond (decide (48<=((qj O 0).1:Int)))
     (cond (decide (((qj O 0).1:Int)<=57))
      (En (.inl (En (0+(qj O 0).2))))
      (En (.inl (En (0+(qj O 0).2)))))
     (En (.inl (En (0+(qj O 0).2)))))
    (cond (decide (97<=((qj O 0).1:Int)))
     (cond (decide (48<=((qj O 0).1:Int)))
      (cond (decide (((qj O 0).1:Int)<=57))
       (cond (decide (((qj O 0).1:Int)<=122))
        (En (.inl (En (0+(qj O 0).2))))
        (En (.inr (.inl (0+(qj O 0).2)))))
       (cond (decide (((qj O 0).1:Int)<=122))
        (En (.inl (En (0+(qj O 0).2))))
        (En (.inr (.inl (0+(qj O 0).2))))))
      (cond (decide (((qj O 0).1:Int)<=122))
       (En (.inl (En (0+(qj O 0).2))))
       (En (.inr (.inl (0+(qj O 0).2))))))
     (cond (decide (48<=((qj O 0).1:Int)))
      (cond (decide (((qj O 0).1:Int)<=57))
       (En (.inr (.inl (0+(qj O 0).2))))
       (En (.inr (.inl (0+(qj O 0).2)))))
      (En (.inr (.inl (0+(qj O 0).2)))))))
   (cond (decide (97<=((qj O 0).1:Int)))
    (cond (decide (48<=((qj O 0).1:Int)))
     (cond (decide (((qj O 0).1:Int)<=57))
      (cond (decide (((qj O 0).1:Int)<=122))
       (En (.inl (En (0+(qj O 0).2))))
       (En (.inr (.inl (0+(qj O 0).2)))))
      (cond (decide (((qj O 0).1:Int)<=122))
       (En (.inl (En (0+(qj O 0).2))))
       (En (.inr (.inl (0+(qj O 0).2))))))
     (cond (decide (((qj O 0).1:Int)<=122))
      (En (.inl (En (0+(qj O 0).2))))
      (En (.inr (.inl (0+(qj O 0).2))))))
    (cond (decide (48<=((qj O 0).1:Int)))
     (cond (decide (((qj O 0).1:Int)<=57))
      (En (.inr (.inl (0+(qj O 0).2))))
      (En (.inr (.inl (0+(qj O 0).2)))))
     (En (.inr (.inl (0+(qj O 0).2)))))))
  (En (.inr (.inr 0)))
def Ae (O:aj)(V:Nat):Option (Option (Nat)⊕(Nat⊕Nat)):=
 cond (decide (V<O.length))
  (cond (decide (65<=((qj O V).1:Int)))
   (cond (decide (((qj O V).1:Int)<=90))
    (cond (decide (48<=((qj O V).1:Int)))
     (cond (decide (((qj O V).1:Int)<=57))
      (En (.inl (En (V+(qj O V).2))))
      (En (.inl (En (V+(qj O V).2)))))
     (En (.inl (En (V+(qj O V).2)))))
    (cond (decide (97<=((qj O V).1:Int)))
     (cond (decide (48<=((qj O V).1:Int)))
      (cond (decide (((qj O V).1:Int)<=57))
       (cond (decide (((qj O V).1:Int)<=122))
        (En (.inl (En (V+(qj O V).2))))
        (cond (decide ((V:Int)=0))
         (En (.inr (.inl (V+(qj O V).2))))
         (En (.inl (En (V+(qj O V).2))))))
       (cond (decide (((qj O V).1:Int)<=122))
        (En (.inl (En (V+(qj O V).2))))
        (cond (decide ((V:Int)=0))
         (En (.inr (.inl (V+(qj O V).2))))
         (cond (decide (((qj O V).1:Int)=95))
          (En (.inl (En (V+(qj O V).2))))
          (En (.inr (.inl (V+(qj O V).2))))))))
      (cond (decide (((qj O V).1:Int)<=122))
       (En (.inl (En (V+(qj O V).2))))
       (cond (decide ((V:Int)=0))
        (En (.inr (.inl (V+(qj O V).2))))
        (cond (decide (((qj O V).1:Int)=95))
         (En (.inl (En (V+(qj O V).2))))
         (En (.inr (.inl (V+(qj O V).2))))))))
     (cond (decide (48<=((qj O V).1:Int)))
      (cond (decide (((qj O V).1:Int)<=57))
       (cond (decide ((V:Int)=0))
        (En (.inr (.inl (V+(qj O V).2))))
        (En (.inl (En (V+(qj O V).2)))))
       (cond (decide ((V:Int)=0))
        (En (.inr (.inl (V+(qj O V).2))))
        (cond (decide (((qj O V).1:Int)=95))
         (En (.inl (En (V+(qj O V).2))))
         (En (.inr (.inl (V+(qj O V).2)))))))
      (cond (decide ((V:Int)=0))
       (En (.inr (.inl (V+(qj O V).2))))
       (cond (decide (((qj O V).1:Int)=95))
        (En (.inl (En (V+(qj O V).2))))
        (En (.inr (.inl (V+(qj O V).2)))))))))
   (cond (decide (97<=((qj O V).1:Int)))
    (cond (decide (48<=((qj O V).1:Int)))
     (cond (decide (((qj O V).1:Int)<=57))
      (cond (decide (((qj O V).1:Int)<=122))
       (En (.inl (En (V+(qj O V).2))))
       (cond (decide ((V:Int)=0))
        (En (.inr (.inl (V+(qj O V).2))))
        (En (.inl (En (V+(qj O V).2))))))
      (cond (decide (((qj O V).1:Int)<=122))
       (En (.inl (En (V+(qj O V).2))))
       (cond (decide ((V:Int)=0))
        (En (.inr (.inl (V+(qj O V).2))))
        (cond (decide (((qj O V).1:Int)=95))
         (En (.inl (En (V+(qj O V).2))))
         (En (.inr (.inl (V+(qj O V).2))))))))
     (cond (decide (((qj O V).1:Int)<=122))
      (En (.inl (En (V+(qj O V).2))))
      (cond (decide ((V:Int)=0))
       (En (.inr (.inl (V+(qj O V).2))))
       (cond (decide (((qj O V).1:Int)=95))
        (En (.inl (En (V+(qj O V).2))))
        (En (.inr (.inl (V+(qj O V).2))))))))
    (cond (decide (48<=((qj O V).1:Int)))
     (cond (decide (((qj O V).1:Int)<=57))
      (cond (decide ((V:Int)=0))
       (En (.inr (.inl (V+(qj O V).2))))
       (En (.inl (En (V+(qj O V).2)))))
      (cond (decide ((V:Int)=0))
       (En (.inr (.inl (V+(qj O V).2))))
       (cond (decide (((qj O V).1:Int)=95))
        (En (.inl (En (V+(qj O V).2))))
        (En (.inr (.inl (V+(qj O V).2)))))))
     (cond (decide ((V:Int)=0))
      (En (.inr (.inl (V+(qj O V).2))))
      (cond (decide (((qj O V).1:Int)=95))
       (En (.inl (En (V+(qj O V).2))))
       (En (.inr (.inl (V+(qj O V).2)))))))))
  (En (.inr (.inr V)))
def Kz (O:aj):Option (Nat)->Option (Option (Nat)⊕(Nat⊕Nat))
 |none=>Ad O|some x=>Ae O x
def qxn (O:aj)(V:Nat):bg:=⟨[(0,.str O,Ga),(8,.ptr 0 0,Ga),(46,.bool Ga,Ga)],[.iter O V]⟩
def Du (O:aj):Option (Nat)->bg
 |none=>⟨[(0,.str O,Ga),(8,.ptr 0 0,Ga)],[.iter O 0]⟩|some x=>qxn O x
def Dv (O:aj):Nat⊕Nat->q9×bg
 | .inl d=>(.ret,⟨[(2,.bool Ga,Ga)],[.iter O d]⟩)| .inr d=>(.exit 0,⟨[(0,.str O,Ga),(8,.ptr 0 0,Ga),(9,.aI [.bool Ga],Ga),(10,.bool Ga,Ga)],[.iter O d]⟩)
theorem js8 (O:aj)(r)(h:Ad O=En r):jo pr Dw (Du O) (Dv O) Ha r:=by
 unfold Ad at h
 repeat' first|(replace h:=qc h;rcases h with⟨g,h⟩|⟨g,h⟩)
 all_goals (cases h<;>((first|refine qn ?_|refine jr ?_);simp only[go_sem,seval,Dw,Du,qxn,zM,Dv, *]<;>rfl))
theorem jsw (O:aj)(V:Nat)(r)(h:Ae O V=En r):jo pr Dw (Du O) (Dv O) (En V) r:=by
 unfold Ae at h
 repeat' first|(replace h:=qc h;rcases h with⟨g,h⟩|⟨g,h⟩)
 all_goals (cases h<;>((first|refine qn ?_|refine jr ?_);simp only[go_sem,seval,Dw,Du,qxn,zM,Dv, *]<;>rfl))
theorem jyy (O:aj):∀(x:Option (Nat)) (r) (h:Kz O x=En r),jo pr Dw (Du O) (Dv O) x r
 |none,r,h=>js8 O r h|some x,r,h=>jsw O x r h
theorem jyb (O:aj){V d}(h:bd (Kz O) V=En d):X pr (.loop Dw) (Du O V)=En (Dv O d):=zz (jyy O) h
def f105 (O:aj):Option Bool:=
 qa (bd (Kz O) Ha) fun d192=>match d192 with
  | .inl d194=>
   En Ga
  | .inr d195=>
   cond (decide (O=[]))
    (En Ga)
    (En (decide ((O.length:Int)<=24)))
theorem jym {O r}(h:f105 O=En r):ae pr (X pr) 105 [.str O]=En (.bool r,Ga):=by
 unfold f105 at h;refine jz Dx ?_
 repeat' first|(replace h:=qb h;obtain⟨d,g,h⟩:=h;with_reducible first|(replace g:=jyb O g;rcases d with d|d<;>dsimp only[Du,Dv,zc]at g h)|skip)|(replace h:=qc h;rcases h with⟨g,h⟩|⟨g,h⟩)
 all_goals (cases h<;>(simp only[go_sem,seval,Dx, *];exact⟨_,rfl⟩))
end Go.Z
namespace Go.Z
open Go Go.Abs Go.W
def GJ (O:aj):Option Int:=
 qa (f105 O) fun v1=>
 qa (f36 (!v1) 8) fun v3=>
 En v3
theorem j7x (hp:qh){O r}(h:GJ O=En r):ai pr (X pr) 126 [.str O] hp=En (Iv r,Ga,hp):=by
 unfold GJ at h;obtain⟨v1,I,h⟩:=qb h;have lC:ae pr (X pr) 105 [.str O]=En (.bool v1,Ga):=jym I;obtain⟨v3,h4,h⟩:=qb h;have rF:ae pr (X pr) 36 [.bool (!v1),Iv 8]=En (Iv v3,Ga):=dI h4;have Q:v3=r:=En.inj h;subst Q;rw[qg (show pr.br 126=En Dy from rfl) (by simp)];simp only[go_sem,seval,Dy,lC,rF]<;>rfl
def GK (O:Int):Option Int:=
 qa (f124 O 0 999999999) fun v1=>
 En v1
theorem j5k (hp:qh){O r}(h:GK O=En r):ai pr (X pr) 128 [Iv O] hp=En (Iv r,Ga,hp):=by
 unfold GK at h;obtain⟨v1,I,h⟩:=qb h;have lC:ae pr (X pr) 124 [Iv O,Iv 0,Iv 999999999]=En (Iv v1,Ga):=Rr I;have Q:v1=r:=En.inj h;subst Q;rw[qg (show pr.br 128=En Dz from rfl) (by simp)];simp only[go_sem,seval,Dz,lC]<;>rfl
def KA (O:ak aj)(V:(ak Int)×Int×Bool):Option (((ak Int)×Int×Bool)⊕(((ak Int)×Bool×Int))):=
 cond (decide (V.2.1<((O.getD []).length:Int)))
  (qa (ql (O.getD []) V.2.1) fun eE=>
  qa (GJ eE) fun v20=>
  cond V.2.2
   (qa (bB V.1 [v20]) fun v23=>
   En (.inl (v23,qd .i64 (V.2.1+1),Gb)))
   (cond V.1.isNone
    (qa (bB V.1 [v20]) fun v26=>
    En (.inl (v26,qd .i64 (V.2.1+1),Gb)))
    (Ha)))
  (En (.inr (V.1,V.2.2,V.2.1)))
def Rv (O:ak aj)(V:(ak Int)×Int×Bool):bg:=⟨[(1,.fn (.func 126) [] [],Ga),(5,sl 1 zf V.1,V.2.2),(8,sl 1 qx O,Ga),(9,Lv O,Ga),(10,Iv V.2.1,Ga)],[]⟩
def Rw (O:ak aj)(d:((ak Int)×Bool×Int)):q9×bg:=(.exit 0,⟨[(1,.fn (.func 126) [] [],Ga),(5,sl 1 zf d.1,d.2.1),(8,sl 1 qx O,Ga),(9,Lv O,Ga),(10,Iv d.2.2,Ga),(11,.bool Ga,Ga)],[]⟩)
theorem j0z (O:ak aj)(V:(ak Int)×Int×Bool)(r)(h:KA O V=En r):jo pr Rx (Rv O) (Rw O) V r:=by
 unfold KA at h
 repeat' first|(replace h:=qb h;obtain⟨d,g,h⟩:=h;with_reducible first|replace g:=j7x [] g|replace g:=WM g|skip)|(replace h:=qc h;rcases h with⟨g,h⟩|⟨g,h⟩)
 all_goals (cases h<;>((first|refine qn ?_|refine jr ?_);simp only[go_sem,seval,Rx,Rv,ji,Rw, *]<;>rfl))
theorem j2d (O:ak aj){V d}(h:bd (KA O) V=En d):X pr (.loop Rx) (Rv O V)=En (Rw O d):=zz (j0z O) h
def f125 (O:ak aj):Option ((ak Int)×Bool):=
 qa (bd (KA O) (Ha,0,Ga)) fun d28=>
 En (d28.1,d28.2.1)
theorem zg1 {O r}(h:f125 O=En r):ae pr (X pr) 125 [sl 1 qx O,.fn (.func 126) [] []]=En (sl 1 zf r.1,r.2):=by
 unfold f125 at h;refine yc DA ?_
 repeat' first|(replace h:=qb h;obtain⟨d,g,h⟩:=h;with_reducible first|(replace g:=j2d O g;dsimp only[Rv,Rw,zc]at g h)|skip)|(replace h:=qc h;rcases h with⟨g,h⟩|⟨g,h⟩)
 all_goals (cases h<;>(simp only[go_sem,seval,DA, *];exact⟨_,rfl⟩))
def KB (O:ak Int)(V:(ak Int)×Int×Bool):Option (((ak Int)×Int×Bool)⊕(((ak Int)×Bool×Int))):=
 cond (decide (V.2.1<((O.getD []).length:Int)))
  (qa (ql (O.getD []) V.2.1) fun eE=>
  qa (GK eE) fun v20=>
  cond V.2.2
   (qa (bB V.1 [v20]) fun v23=>
   En (.inl (v23,qd .i64 (V.2.1+1),Gb)))
   (cond V.1.isNone
    (qa (bB V.1 [v20]) fun v26=>
    En (.inl (v26,qd .i64 (V.2.1+1),Gb)))
    (Ha)))
  (En (.inr (V.1,V.2.2,V.2.1)))
def Ry (O:ak Int)(V:(ak Int)×Int×Bool):bg:=⟨[(1,.fn (.func 128) [] [],Ga),(5,sl 1 zf V.1,V.2.2),(8,sl 1 zf O,Ga),(9,Lv O,Ga),(10,Iv V.2.1,Ga)],[]⟩
def Rz (O:ak Int)(d:((ak Int)×Bool×Int)):q9×bg:=(.exit 0,⟨[(1,.fn (.func 128) [] [],Ga),(5,sl 1 zf d.1,d.2.1),(8,sl 1 zf O,Ga),(9,Lv O,Ga),(10,Iv d.2.2,Ga),(11,.bool Ga,Ga)],[]⟩)
theorem j0m (O:ak Int)(V:(ak Int)×Int×Bool)(r)(h:KB O V=En r):jo pr RA (Ry O) (Rz O) V r:=by
 unfold KB at h
 repeat' first|(replace h:=qb h;obtain⟨d,g,h⟩:=h;with_reducible first|replace g:=j5k [] g|replace g:=WM g|skip)|(replace h:=qc h;rcases h with⟨g,h⟩|⟨g,h⟩)
 all_goals (cases h<;>((first|refine qn ?_|refine jr ?_);simp only[go_sem,seval,RA,Ry,ji,Rz, *]<;>rfl))
theorem j15 (O:ak Int){V d}(h:bd (KB O) V=En d):X pr (.loop RA) (Ry O V)=En (Rz O d):=zz (j0m O) h
def f127 (O:ak Int):Option ((ak Int)×Bool):=
 qa (bd (KB O) (Ha,0,Ga)) fun d28=>
 En (d28.1,d28.2.1)
theorem zke {O r}(h:f127 O=En r):ae pr (X pr) 127 [sl 1 zf O,.fn (.func 128) [] []]=En (sl 1 zf r.1,r.2):=by
 unfold f127 at h;refine yc DB ?_
 repeat' first|(replace h:=qb h;obtain⟨d,g,h⟩:=h;with_reducible first|(replace g:=j15 O g;dsimp only[Ry,Rz,zc]at g h)|skip)|(replace h:=qc h;rcases h with⟨g,h⟩|⟨g,h⟩)
 all_goals (cases h<;>(simp only[go_sem,seval,DB, *];exact⟨_,rfl⟩))
def f120 (O:ak aj):Option ((ak aj)×Bool):=
 cond O.isNone
  (En (Ha,Ga))
  (qa (bB (En []) (O.getD [])) fun v2=>
  En (v2,Gb))
theorem Z1 {O r}(h:f120 O=En r):ae pr (X pr) 120 [sl 1 qx O]=En (sl 1 qx r.1,r.2):=by
 unfold f120 at h;refine yc DC ?_
 repeat' first|(replace h:=qb h;obtain⟨d,g,h⟩:=h)|(replace h:=qc h;rcases h with⟨g,h⟩|⟨g,h⟩)
 all_goals (cases h<;>(simp only[go_sem,seval,DC,kr, *];exact⟨_,rfl⟩))
def f131 (O:ak Int):Option ((ak Int)×Bool):=
 cond O.isNone
  (En (Ha,Ga))
  (qa (bB (En []) (O.getD [])) fun v2=>
  En (v2,Gb))
theorem jzj {O r}(h:f131 O=En r):ae pr (X pr) 131 [sl 1 zf O]=En (sl 1 zf r.1,r.2):=by
 unfold f131 at h;refine yc DE ?_
 repeat' first|(replace h:=qb h;obtain⟨d,g,h⟩:=h)|(replace h:=qc h;rcases h with⟨g,h⟩|⟨g,h⟩)
 all_goals (cases h<;>(simp only[go_sem,seval,DE,kr, *];exact⟨_,rfl⟩))
def f46 (O:aC):Option aC:=
 qa (f120 O.names) fun v1=>
 qa (f131 O.values) fun v3=>
 cond v1.2
  (cond v3.2
   (En (⟨O.number,O.kind,v1.1,v3.1,O.text⟩))
   (En (⟨O.number,O.kind,v1.1,v3.1,O.text⟩)))
  (cond v3.2
   (En (⟨O.number,O.kind,v1.1,v3.1,O.text⟩))
   (En (⟨O.number,O.kind,v1.1,v3.1,O.text⟩)))
theorem W46 {O r}(h:f46 O=En r):ae pr (X pr) 46 [aE O]=En (aE r,Ga):=by
 unfold f46 at h;refine jz LW ?_
 repeat' first|(replace h:=qb h;obtain⟨d,g,h⟩:=h;with_reducible first|replace g:=Z1 g|replace g:=jzj g|skip)|(replace h:=qc h;rcases h with⟨g,h⟩|⟨g,h⟩)
 all_goals (cases h<;>(simp only[go_sem,seval,LW, *];exact⟨_,rfl⟩))
def RB (O:ak aj)(J:aj)(V:Int):Option (Int⊕(Int⊕Int)):=
 cond (decide (V<((O.getD []).length:Int)))
  (qa (ql (O.getD []) V) fun v10=>
  cond (decide (J=v10))
   (En (.inr (.inl V)))
   (En (.inl (qd .i64 (V+1)))))
  (En (.inr (.inr V)))
def RC (O:ak aj)(J:aj)(V:Int):bg:=⟨[(0,sl 1 qx O,Ga),(1,.str J,Ga),(7,Lv O,Ga),(8,Iv V,Ga)],[]⟩
def RD (O:ak aj)(J:aj):Int⊕Int->q9×bg
 | .inl d=>(.ret,⟨[(4,Iv d,Ga)],[]⟩)| .inr d=>(.exit 0,⟨[(0,sl 1 qx O,Ga),(1,.str J,Ga),(7,Lv O,Ga),(8,Iv d,Ga),(9,.bool Ga,Ga)],[]⟩)
theorem jzh (O:ak aj)(J:aj)(V:Int)(r)(h:RB O J V=En r):jo pr RE (RC O J) (RD O J) V r:=by
 unfold RB at h
 repeat' first|(replace h:=qb h;obtain⟨d,g,h⟩:=h)|(replace h:=qc h;rcases h with⟨g,h⟩|⟨g,h⟩)
 all_goals (cases h<;>((first|refine qn ?_|refine jr ?_);simp only[go_sem,seval,RE,RC,ji,RD, *]<;>rfl))
theorem jxh (O:ak aj)(J:aj){V d}(h:bd (RB O J) V=En d):X pr (.loop RE) (RC O J V)=En (RD O J d):=zz (jzh O J) h
def f149 (O:ak aj)(J:aj):Option Int:=
 qa (bd (RB O J) 0) fun d13=>match d13 with
  | .inl d15=>
   En d15
  | .inr d16=>
   En (-1)
theorem zhn {O J r}(h:f149 O J=En r):ae pr (X pr) 149 [sl 1 qx O,.str J]=En (Iv r,Ga):=by
 unfold f149 at h;refine jz DF ?_
 repeat' first|(replace h:=qb h;obtain⟨d,g,h⟩:=h;with_reducible first|(replace g:=jxh O J g;rcases d with d|d<;>dsimp only[RC,RD,zc]at g h)|skip)|(replace h:=qc h;rcases h with⟨g,h⟩|⟨g,h⟩)
 all_goals (cases h<;>(simp only[go_sem,seval,DF, *];exact⟨_,rfl⟩))
def f63 (O:ak aj)(J:aj):Option Bool:=
 qa (f149 O J) fun v1=>
 En (decide (0<=v1))
theorem QF {O J r}(h:f63 O J=En r):ae pr (X pr) 63 [sl 1 qx O,.str J]=En (.bool r,Ga):=by
 unfold f63 at h;refine jz c63 ?_
 repeat' first|(replace h:=qb h;obtain⟨d,g,h⟩:=h;with_reducible first|replace g:=zhn g|skip)|(replace h:=qc h;rcases h with⟨g,h⟩|⟨g,h⟩)
 all_goals (cases h<;>(simp only[go_sem,seval,c63, *];exact⟨_,rfl⟩))
end Go.Z
namespace Go.Z
open Go Go.Abs Go.W
def RF (O:av)(J:aj)(V:Int):Option (Int⊕(Int⊕Int)):=
 cond (decide (V<((O.units.getD []).length:Int)))
  (qa (ql (O.units.getD []) V) fun v10=>
  cond (decide (v10.name=J))
   (En (.inr (.inl V)))
   (En (.inl (qd .i64 (V+1)))))
  (En (.inr (.inr V)))
def RH (O:av)(J:aj)(V:Int):bg:=⟨[(1,.str J,Ga),(2,.aq (aR O),Ga),(5,Iv V,Ga)],[]⟩
def RI (O:av)(J:aj):Int⊕Int->q9×bg
 | .inl d=>(.ret,⟨[(4,Iv d,Ga)],[]⟩)| .inr d=>(.exit 0,⟨[(1,.str J,Ga),(2,.aq (aR O),Ga),(5,Iv d,Ga),(10,.bool Ga,Ga)],[]⟩)
theorem j6k (O:av)(J:aj)(V:Int)(r)(h:RF O J V=En r):jo pr RJ (RH O J) (RI O J) V r:=by
 unfold RF at h
 repeat' first|(replace h:=qb h;obtain⟨d,g,h⟩:=h)|(replace h:=qc h;rcases h with⟨g,h⟩|⟨g,h⟩)
 all_goals (cases h<;>((first|refine qn ?_|refine jr ?_);simp only[go_sem,seval,RJ,RH,ji,RI, *]<;>rfl))
theorem j54 (O:av)(J:aj){V d}(h:bd (RF O J) V=En d):X pr (.loop RJ) (RH O J V)=En (RI O J d):=zz (j6k O J) h
def f83 (O:av)(J:aj):Option Int:=
 qa (bd (RF O J) 0) fun d13=>match d13 with
  | .inl d15=>
   En d15
  | .inr d16=>
   En (-1)
theorem QX {O J r}(h:f83 O J=En r):ae pr (X pr) 83 [aR O,.str J]=En (Iv r,Ga):=by
 unfold f83 at h;refine jz c83 ?_
 repeat' first|(replace h:=qb h;obtain⟨d,g,h⟩:=h;with_reducible first|(replace g:=j54 O J g;rcases d with d|d<;>dsimp only[RH,RI,zc]at g h)|skip)|(replace h:=qc h;rcases h with⟨g,h⟩|⟨g,h⟩)
 all_goals (cases h<;>(simp only[go_sem,seval,c83, *];exact⟨_,rfl⟩))
def RL (O:av)(J:aj)(V:Int):Option (Int⊕(Int⊕Int)):=
 cond (decide (V<((O.ay.getD []).length:Int)))
  (qa (ql (O.ay.getD []) V) fun v10=>
  cond (decide (v10.name=J))
   (En (.inr (.inl V)))
   (En (.inl (qd .i64 (V+1)))))
  (En (.inr (.inr V)))
def RM (O:av)(J:aj)(V:Int):bg:=⟨[(1,.str J,Ga),(2,.aq (aR O),Ga),(5,Iv V,Ga)],[]⟩
def RN (O:av)(J:aj):Int⊕Int->q9×bg
 | .inl d=>(.ret,⟨[(4,Iv d,Ga)],[]⟩)| .inr d=>(.exit 0,⟨[(1,.str J,Ga),(2,.aq (aR O),Ga),(5,Iv d,Ga),(10,.bool Ga,Ga)],[]⟩)
theorem j5w (O:av)(J:aj)(V:Int)(r)(h:RL O J V=En r):jo pr RO (RM O J) (RN O J) V r:=by
 unfold RL at h
 repeat' first|(replace h:=qb h;obtain⟨d,g,h⟩:=h)|(replace h:=qc h;rcases h with⟨g,h⟩|⟨g,h⟩)
 all_goals (cases h<;>((first|refine qn ?_|refine jr ?_);simp only[go_sem,seval,RO,RM,ji,RN, *]<;>rfl))
theorem j5g (O:av)(J:aj){V d}(h:bd (RL O J) V=En d):X pr (.loop RO) (RM O J V)=En (RN O J d):=zz (j5w O J) h
def f80 (O:av)(J:aj):Option Int:=
 qa (bd (RL O J) 0) fun d13=>match d13 with
  | .inl d15=>
   En d15
  | .inr d16=>
   En (-1)
theorem Hr {O J r}(h:f80 O J=En r):ae pr (X pr) 80 [aR O,.str J]=En (Iv r,Ga):=by
 unfold f80 at h;refine jz c80 ?_
 repeat' first|(replace h:=qb h;obtain⟨d,g,h⟩:=h;with_reducible first|(replace g:=j5g O J g;rcases d with d|d<;>dsimp only[RM,RN,zc]at g h)|skip)|(replace h:=qc h;rcases h with⟨g,h⟩|⟨g,h⟩)
 all_goals (cases h<;>(simp only[go_sem,seval,c80, *];exact⟨_,rfl⟩))
def RP (O:av)(J:aj)(V:Int):Option (Int⊕(Int⊕Int)):=
 cond (decide (V<((O.ah.getD []).length:Int)))
  (qa (ql (O.ah.getD []) V) fun v10=>
  cond (decide (v10.name=J))
   (En (.inr (.inl V)))
   (En (.inl (qd .i64 (V+1)))))
  (En (.inr (.inr V)))
def RQ (O:av)(J:aj)(V:Int):bg:=⟨[(1,.str J,Ga),(2,.aq (aR O),Ga),(5,Iv V,Ga)],[]⟩
def RR (O:av)(J:aj):Int⊕Int->q9×bg
 | .inl d=>(.ret,⟨[(4,Iv d,Ga)],[]⟩)| .inr d=>(.exit 0,⟨[(1,.str J,Ga),(2,.aq (aR O),Ga),(5,Iv d,Ga),(10,.bool Ga,Ga)],[]⟩)
theorem j94 (O:av)(J:aj)(V:Int)(r)(h:RP O J V=En r):jo pr RS (RQ O J) (RR O J) V r:=by
 unfold RP at h
 repeat' first|(replace h:=qb h;obtain⟨d,g,h⟩:=h)|(replace h:=qc h;rcases h with⟨g,h⟩|⟨g,h⟩)
 all_goals (cases h<;>((first|refine qn ?_|refine jr ?_);simp only[go_sem,seval,RS,RQ,ji,RR, *]<;>rfl))
theorem j5s (O:av)(J:aj){V d}(h:bd (RP O J) V=En d):X pr (.loop RS) (RQ O J V)=En (RR O J d):=zz (j94 O J) h
def f82 (O:av)(J:aj):Option Int:=
 qa (bd (RP O J) 0) fun d13=>match d13 with
  | .inl d15=>
   En d15
  | .inr d16=>
   En (-1)
theorem LH {O J r}(h:f82 O J=En r):ae pr (X pr) 82 [aR O,.str J]=En (Iv r,Ga):=by
 unfold f82 at h;refine jz c82 ?_
 repeat' first|(replace h:=qb h;obtain⟨d,g,h⟩:=h;with_reducible first|(replace g:=j5s O J g;rcases d with d|d<;>dsimp only[RQ,RR,zc]at g h)|skip)|(replace h:=qc h;rcases h with⟨g,h⟩|⟨g,h⟩)
 all_goals (cases h<;>(simp only[go_sem,seval,c82, *];exact⟨_,rfl⟩))
def zl8 (O:ak aC)(V:Int):Unit⊕Int->q9×bg
 | .inl d=>(.ret,⟨[(4,.bool Ga,Ga)],[]⟩)| .inr d=>(.exit 2,⟨[(0,sl 5 bK O,Ga),(5,Iv V,Ga),(6,Iv d,Ga),(58,.bool Ga,Ga)],[]⟩)
def BU (O:av)(J:bz)(a2:aj)(V:Int×Int):Option ((Int×Int)⊕((Int×Int))):=
 cond (decide (V.2<((J.uses.getD []).length:Int)))
  (qa (ql (J.uses.getD []) V.2) fun eE=>
  qa (f80 O eE.k) fun v20=>
  qa (ql (O.ay.getD []) v20) fun v22=>
  cond (decide (v22.kind=a2))
   (En (.inl (qd .i64 (V.1+eE.n),qd .i64 (V.2+1))))
   (En (.inl (V.1,qd .i64 (V.2+1)))))
  (En (.inr (V.1,V.2)))
def RT (O:av)(J:bz)(a2:aj)(V:Int×Int):bg:=⟨[(2,.str a2,Ga),(3,.aq (aR O),Ga),(4,.aq (aU J),Ga),(7,Iv V.1,Ga),(8,Iv V.2,Ga)],[]⟩
def RU (O:av)(J:bz)(a2:aj)(d:(Int×Int)):q9×bg:=(.exit 0,⟨[(2,.str a2,Ga),(3,.aq (aR O),Ga),(4,.aq (aU J),Ga),(7,Iv d.1,Ga),(8,Iv d.2,Ga),(13,.bool Ga,Ga)],[]⟩)
theorem j00 (O:av)(J:bz)(a2:aj)(V:Int×Int)(r)(h:BU O J a2 V=En r):jo pr RV (RT O J a2) (RU O J a2) V r:=by
 unfold BU at h
 repeat' first|(replace h:=qb h;obtain⟨d,g,h⟩:=h;with_reducible first|replace g:=Hr g|skip)|(replace h:=qc h;rcases h with⟨g,h⟩|⟨g,h⟩)
 all_goals (cases h<;>((first|refine qn ?_|refine jr ?_);simp only[go_sem,seval,RV,RT,ji,RU, *]<;>rfl))
theorem jx1 (O:av)(J:bz)(a2:aj){V d}(h:bd (BU O J a2) V=En d):X pr (.loop RV) (RT O J a2 V)=En (RU O J a2 d):=zz (j00 O J a2) h
def f277 (O:av)(J:bz)(a2:aj):Option Int:=
 qa (bd (BU O J a2) (0,0)) fun d25=>
 En d25.1
theorem zjn {O J a2 r}(h:f277 O J a2=En r):ae pr (X pr) 277 [aR O,aU J,.str a2]=En (Iv r,Ga):=by
 unfold f277 at h;refine jz DG ?_
 repeat' first|(replace h:=qb h;obtain⟨d,g,h⟩:=h;with_reducible first|(replace g:=jx1 O J a2 g;dsimp only[RT,RU,zc]at g h)|skip)|(replace h:=qc h;rcases h with⟨g,h⟩|⟨g,h⟩)
 all_goals (cases h<;>(simp only[go_sem,seval,DG, *];exact⟨_,rfl⟩))
def Cg (O:bz)(V:(ak aj)×Int×Bool):Option (((ak aj)×Int×Bool)⊕(((ak aj)×Bool×Int))):=
 cond (decide (V.2.1<((O.uses.getD []).length:Int)))
  (qa (ql (O.uses.getD []) V.2.1) fun da=>
  cond V.2.2
   (qa (bB V.1 [da.k]) fun eF=>
   En (.inl (eF,qd .i64 (V.2.1+1),Gb)))
   (cond V.1.isNone
    (qa (bB V.1 [da.k]) fun v20=>
    En (.inl (v20,qd .i64 (V.2.1+1),Gb)))
    (Ha)))
  (En (.inr (V.1,V.2.2,V.2.1)))
def RW (O:bz)(V:(ak aj)×Int×Bool):bg:=⟨[(1,.aq (aU O),Ga),(3,sl 1 qx V.1,V.2.2),(4,Iv V.2.1,Ga)],[]⟩
def RX (O:bz)(d:((ak aj)×Bool×Int)):q9×bg:=(.exit 0,⟨[(1,.aq (aU O),Ga),(3,sl 1 qx d.1,d.2.1),(4,Iv d.2.2,Ga),(9,.bool Ga,Ga)],[]⟩)
theorem j8c (O:bz)(V:(ak aj)×Int×Bool)(r)(h:Cg O V=En r):jo pr RY (RW O) (RX O) V r:=by
 unfold Cg at h
 repeat' first|(replace h:=qb h;obtain⟨d,g,h⟩:=h;with_reducible first|replace g:=tI g|skip)|(replace h:=qc h;rcases h with⟨g,h⟩|⟨g,h⟩)
 all_goals (cases h<;>((first|refine qn ?_|refine jr ?_);simp only[go_sem,seval,RY,RW,ji,RX, *]<;>rfl))
theorem j67 (O:bz){V d}(h:bd (Cg O) V=En d):X pr (.loop RY) (RW O V)=En (RX O d):=zz (j8c O) h
def f84 (O:bz):Option ((ak aj)×Bool):=
 qa (bd (Cg O) (Ha,0,Ga)) fun d22=>
 En (d22.1,d22.2.1)
theorem W84 {O r}(h:f84 O=En r):ae pr (X pr) 84 [aU O]=En (sl 1 qx r.1,r.2):=by
 unfold f84 at h;refine yc c84 ?_
 repeat' first|(replace h:=qb h;obtain⟨d,g,h⟩:=h;with_reducible first|(replace g:=j67 O g;dsimp only[RW,RX,zc]at g h)|skip)|(replace h:=qc h;rcases h with⟨g,h⟩|⟨g,h⟩)
 all_goals (cases h<;>(simp only[go_sem,seval,c84, *];exact⟨_,rfl⟩))
def f157 (O:av)(J:bz):Option cn:=
 qa (f82 O J.product) fun v1=>
 qa (ql (O.ah.getD []) v1) fun v3=>
 qa (ql (v3.bm.getD []) (qd .i64 (J.version-1))) fun v5=>
 En v5
theorem RZ {O J r}(h:f157 O J=En r):ae pr (X pr) 157 [aR O,aU J]=En (aD r,Ga):=by
 unfold f157 at h;refine jz DH ?_
 repeat' first|(replace h:=qb h;obtain⟨d,g,h⟩:=h;with_reducible first|replace g:=LH g|skip)|(replace h:=qc h;rcases h with⟨g,h⟩|⟨g,h⟩)
 all_goals (cases h<;>(simp only[go_sem,seval,DH,ji, *];exact⟨_,rfl⟩))
def BP (O:bz)(J:jh)(V:Bool×Int):Option ((Bool×Int)⊕((Bool×Int))):=
 cond (decide (V.2<((O.results.getD []).length:Int)))
  (qa (ql (O.results.getD []) V.2) fun da=>
  cond (decide (da.k=J.k))
   (cond (decide (da.a=O.version))
    (cond (decide (J.a<=da.b))
     (En (.inl (decide (da.b<=J.b),qd .i64 (V.2+1))))
     (En (.inl (Ga,qd .i64 (V.2+1)))))
    (En (.inl (V.1,qd .i64 (V.2+1)))))
   (En (.inl (V.1,qd .i64 (V.2+1)))))
  (En (.inr (V.1,V.2)))
def R0 (O:bz)(J:jh)(V:Bool×Int):bg:=⟨[(2,.aq (aU O),Ga),(3,.aq (aT J),Ga),(5,.bool V.1,Ga),(6,Iv V.2,Ga)],[]⟩
def R3 (O:bz)(J:jh)(d:(Bool×Int)):q9×bg:=(.exit 0,⟨[(2,.aq (aU O),Ga),(3,.aq (aT J),Ga),(5,.bool d.1,Ga),(6,Iv d.2,Ga),(12,.bool Ga,Ga)],[]⟩)
theorem j1y (O:bz)(J:jh)(V:Bool×Int)(r)(h:BP O J V=En r):jo pr R4 (R0 O J) (R3 O J) V r:=by
 unfold BP at h
 repeat' first|(replace h:=qb h;obtain⟨d,g,h⟩:=h)|(replace h:=qc h;rcases h with⟨g,h⟩|⟨g,h⟩)
 all_goals (cases h<;>((first|refine qn ?_|refine jr ?_);simp only[go_sem,seval,R4,R0,ji,R3, *]<;>rfl))
theorem jxk (O:bz)(J:jh){V d}(h:bd (BP O J) V=En d):X pr (.loop R4) (R0 O J V)=En (R3 O J d):=zz (j1y O J) h
def f158 (O:bz)(J:jh):Option Bool:=
 qa (bd (BP O J) (Ga,0)) fun d19=>
 En d19.1
theorem zhr {O J r}(h:f158 O J=En r):ae pr (X pr) 158 [aU O,aT J]=En (.bool r,Ga):=by
 unfold f158 at h;refine jz DI ?_
 repeat' first|(replace h:=qb h;obtain⟨d,g,h⟩:=h;with_reducible first|(replace g:=jxk O J g;dsimp only[R0,R3,zc]at g h)|skip)|(replace h:=qc h;rcases h with⟨g,h⟩|⟨g,h⟩)
 all_goals (cases h<;>(simp only[go_sem,seval,DI, *];exact⟨_,rfl⟩))
def f223 (O:av)(J:bz):Option Int:=
 qa (f82 O J.product) fun v1=>
 qa (ql (O.ah.getD []) v1) fun v3=>
 En ((v3.bm.getD []).length:Int)
theorem j3c {O J r}(h:f223 O J=En r):ae pr (X pr) 223 [aR O,aU J]=En (Iv r,Ga):=by
 unfold f223 at h;refine jz DJ ?_
 repeat' first|(replace h:=qb h;obtain⟨d,g,h⟩:=h;with_reducible first|replace g:=LH g|skip)|(replace h:=qc h;rcases h with⟨g,h⟩|⟨g,h⟩)
 all_goals (cases h<;>(simp only[go_sem,seval,DJ,ji, *];exact⟨_,rfl⟩))
def BV (O:av)(J:bz)(v1:cn)(V:Int):Option (Int⊕(Unit⊕Int)):=
 cond (decide (V<((v1.bh.getD []).length:Int)))
  (qa (ql (v1.bh.getD []) V) fun dK=>
  qa (f277 O J dK.k) fun eE=>
  cond (decide (eE<dK.n))
   (En (.inr (.inl ())))
   (En (.inl (qd .i64 (V+1)))))
  (En (.inr (.inr V)))
def R5 (O:av)(J:bz)(v1:cn)(V:Int):bg:=⟨[(2,.aq (aR O),Ga),(3,.aq (aU J),Ga),(5,.aq (aD v1),Ga),(6,Iv V,Ga)],[]⟩
def R6 (O:av)(J:bz)(v1:cn):Unit⊕Int->q9×bg
 | .inl d=>(.ret,⟨[(4,.bool Ga,Ga)],[]⟩)| .inr d=>(.exit 0,⟨[(2,.aq (aR O),Ga),(3,.aq (aU J),Ga),(5,.aq (aD v1),Ga),(6,Iv d,Ga),(14,.bool Ga,Ga)],[]⟩)
theorem jzi (O:av)(J:bz)(v1:cn)(V:Int)(r)(h:BV O J v1 V=En r):jo pr R7 (R5 O J v1) (R6 O J v1) V r:=by
 unfold BV at h
 repeat' first|(replace h:=qb h;obtain⟨d,g,h⟩:=h;with_reducible first|replace g:=zjn g|skip)|(replace h:=qc h;rcases h with⟨g,h⟩|⟨g,h⟩)
 all_goals (cases h<;>((first|refine qn ?_|refine jr ?_);simp only[go_sem,seval,R7,R5,ji,R6, *]<;>rfl))
theorem j2k (O:av)(J:bz)(v1:cn){V d}(h:bd (BV O J v1) V=En d):X pr (.loop R7) (R5 O J v1 V)=En (R6 O J v1 d):=zz (jzi O J v1) h
def f263 (O:av)(J:bz):Option Bool:=
 qa (f157 O J) fun v1=>
 qa (bd (BV O J v1) 0) fun d21=>match d21 with
  | .inl d23=>
   En Ga
  | .inr d24=>
   En Gb
theorem zeq {O J r}(h:f263 O J=En r):ae pr (X pr) 263 [aR O,aU J]=En (.bool r,Ga):=by
 unfold f263 at h;refine jz DK ?_
 repeat' first|(replace h:=qb h;obtain⟨d,g,h⟩:=h;with_reducible first|replace g:=RZ g|(replace g:=j2k O J _ g;rcases d with d|d<;>dsimp only[R5,R6,zc]at g h)|skip)|(replace h:=qc h;rcases h with⟨g,h⟩|⟨g,h⟩)
 all_goals (cases h<;>(simp only[go_sem,seval,DK, *];exact⟨_,rfl⟩))
def Ch (O:bz)(J:aj)(V:Int):Option (Int⊕(Unit⊕Int)):=
 cond (decide (V<((O.uses.getD []).length:Int)))
  (qa (ql (O.uses.getD []) V) fun v10=>
  cond (decide (v10.k=J))
   (En (.inr (.inl ())))
   (En (.inl (qd .i64 (V+1)))))
  (En (.inr (.inr V)))
def R8 (O:bz)(J:aj)(V:Int):bg:=⟨[(1,.str J,Ga),(2,.aq (aU O),Ga),(5,Iv V,Ga)],[]⟩
def R9 (O:bz)(J:aj):Unit⊕Int->q9×bg
 | .inl d=>(.ret,⟨[(4,.bool Gb,Ga)],[]⟩)| .inr d=>(.exit 0,⟨[(1,.str J,Ga),(2,.aq (aU O),Ga),(5,Iv d,Ga),(10,.bool Ga,Ga)],[]⟩)
theorem j0b (O:bz)(J:aj)(V:Int)(r)(h:Ch O J V=En r):jo pr Sb (R8 O J) (R9 O J) V r:=by
 unfold Ch at h
 repeat' first|(replace h:=qb h;obtain⟨d,g,h⟩:=h)|(replace h:=qc h;rcases h with⟨g,h⟩|⟨g,h⟩)
 all_goals (cases h<;>((first|refine qn ?_|refine jr ?_);simp only[go_sem,seval,Sb,R8,ji,R9, *]<;>rfl))
theorem j0t (O:bz)(J:aj){V d}(h:bd (Ch O J) V=En d):X pr (.loop Sb) (R8 O J V)=En (R9 O J d):=zz (j0b O J) h
def f156 (O:bz)(J:aj):Option Bool:=
 qa (bd (Ch O J) 0) fun d13=>match d13 with
  | .inl d15=>
   En Gb
  | .inr d16=>
   En Ga
theorem zfl {O J r}(h:f156 O J=En r):ae pr (X pr) 156 [aU O,.str J]=En (.bool r,Ga):=by
 unfold f156 at h;refine jz DL ?_
 repeat' first|(replace h:=qb h;obtain⟨d,g,h⟩:=h;with_reducible first|(replace g:=j0t O J g;rcases d with d|d<;>dsimp only[R8,R9,zc]at g h)|skip)|(replace h:=qc h;rcases h with⟨g,h⟩|⟨g,h⟩)
 all_goals (cases h<;>(simp only[go_sem,seval,DL, *];exact⟨_,rfl⟩))
def BT (J:bz)(v1:cn)(V:(ak aj)×Int×Bool):Option (((ak aj)×Int×Bool)⊕(((ak aj)×Bool×Int))):=
 cond (decide (V.2.1<((v1.aS.getD []).length:Int)))
  (qa (ql (v1.aS.getD []) V.2.1) fun v22=>
  qa (f158 J v22) fun v24=>
  cond v24
   (En (.inl (V.1,qd .i64 (V.2.1+1),V.2.2)))
   (cond V.2.2
    (qa (bB V.1 [v22.k]) fun v28=>
    En (.inl (v28,qd .i64 (V.2.1+1),Gb)))
    (cond V.1.isNone
     (qa (bB V.1 [v22.k]) fun v31=>
     En (.inl (v31,qd .i64 (V.2.1+1),Gb)))
     (Ha))))
  (En (.inr (V.1,V.2.2,V.2.1)))
def Sc (J:bz)(v1:cn)(V:(ak aj)×Int×Bool):bg:=⟨[(3,.aq (aU J),Ga),(5,.aq (aD v1),Ga),(6,sl 1 qx V.1,V.2.2),(7,Iv V.2.1,Ga)],[]⟩
def Sd (J:bz)(v1:cn)(d:((ak aj)×Bool×Int)):q9×bg:=(.exit 0,⟨[(3,.aq (aU J),Ga),(5,.aq (aD v1),Ga),(6,sl 1 qx d.1,d.2.1),(7,Iv d.2.2,Ga),(15,.bool Ga,Ga)],[]⟩)
theorem j9b (J:bz)(v1:cn)(V:(ak aj)×Int×Bool)(r)(h:BT J v1 V=En r):jo pr Se (Sc J v1) (Sd J v1) V r:=by
 unfold BT at h
 repeat' first|(replace h:=qb h;obtain⟨d,g,h⟩:=h;with_reducible first|replace g:=zhr g|replace g:=tI g|skip)|(replace h:=qc h;rcases h with⟨g,h⟩|⟨g,h⟩)
 all_goals (cases h<;>((first|refine qn ?_|refine jr ?_);simp only[go_sem,seval,Se,Sc,ji,Sd, *]<;>rfl))
theorem j5d (J:bz)(v1:cn){V d}(h:bd (BT J v1) V=En d):X pr (.loop Se) (Sc J v1 V)=En (Sd J v1 d):=zz (j9b J v1) h
def f85 (O:av)(J:bz):Option ((ak aj)×Bool):=
 qa (f157 O J) fun v1=>
 qa (bd (BT J v1) (Ha,0,Ga)) fun d33=>
 En (d33.1,d33.2.1)
theorem W85 {O J r}(h:f85 O J=En r):ae pr (X pr) 85 [aR O,aU J]=En (sl 1 qx r.1,r.2):=by
 unfold f85 at h;refine yc c85 ?_
 repeat' first|(replace h:=qb h;obtain⟨d,g,h⟩:=h;with_reducible first|replace g:=RZ g|(replace g:=j5d J _ g;dsimp only[Sc,Sd,zc]at g h)|skip)|(replace h:=qc h;rcases h with⟨g,h⟩|⟨g,h⟩)
 all_goals (cases h<;>(simp only[go_sem,seval,c85, *];exact⟨_,rfl⟩))
def zS (O:av)(J:bz)(V:Int):Option (Int⊕(Unit⊕Int)):=
 cond (decide (V<((J.uses.getD []).length:Int)))
  (qa (ql (J.uses.getD []) V) fun v28=>
  qa (f80 O v28.k) fun v30=>
  qa (ql (O.ay.getD []) v30) fun fG=>
  cond fG.held
   (En (.inr (.inl ())))
   (En (.inl (qd .i64 (V+1)))))
  (En (.inr (.inr V)))
def Sf (O:av)(J:bz)(V:Int):bg:=⟨[(2,.aq (aR O),Ga),(3,.aq (.agg [.str J.name,.str J.product,Iv J.version,sl 2 bD J.uses,sl 3 jb J.results,.str J.partner,.bool Ga,Iv J.au]),Ga),(5,Iv V,Ga)],[]⟩
def Sg (O:av)(J:bz):Unit⊕Int->q9×bg
 | .inl d=>(.ret,⟨[(4,Iv 34,Ga)],[]⟩)| .inr d=>(.exit 0,⟨[(2,.aq (aR O),Ga),(3,.aq (.agg [.str J.name,.str J.product,Iv J.version,sl 2 bD J.uses,sl 3 jb J.results,.str J.partner,.bool Ga,Iv J.au]),Ga),(5,Iv d,Ga),(27,.bool Ga,Ga)],[]⟩)
theorem j3i (O:av)(J:bz)(V:Int)(r)(h:zS O J V=En r):jo pr Sh (Sf O J) (Sg O J) V r:=by
 unfold zS at h
 repeat' first|(replace h:=qb h;obtain⟨d,g,h⟩:=h;with_reducible first|replace g:=Hr g|skip)|(replace h:=qc h;rcases h with⟨g,h⟩|⟨g,h⟩)
 all_goals (cases h<;>((first|refine qn ?_|refine jr ?_);simp only[go_sem,seval,Sh,Sf,ji,Sg, *]<;>rfl))
theorem jy7 (O:av)(J:bz){V d}(h:bd (zS O J) V=En d):X pr (.loop Sh) (Sf O J V)=En (Sg O J d):=zz (j3i O J) h
def f224 (O:av)(J:bz):Option Int:=
 cond J.ax
  (En 21)
  (qa (f223 O (⟨J.name,J.product,J.version,J.uses,J.results,J.partner,Ga,J.au⟩)) fun v2=>
  cond (decide (J.version=v2))
   (qa (f263 O (⟨J.name,J.product,J.version,J.uses,J.results,J.partner,Ga,J.au⟩)) fun v5=>
   cond v5
    (qa (f85 O (⟨J.name,J.product,J.version,J.uses,J.results,J.partner,Ga,J.au⟩)) fun v8=>
    cond (decide (0<((v8.1.getD []).length:Int)))
     (En 31)
     (qa (bd (zS O J) 0) fun d35=>match d35 with
      | .inl d37=>
       En 34
      | .inr d38=>
       En 0))
    (En 20))
   (En 32))
theorem zfx {O J r}(h:f224 O J=En r):ae pr (X pr) 224 [.agg [.int .i64 O.day,sl 5 jf O.ay,sl 4 qw O.ah,sl 8 bI O.units],.agg [.str J.name,.str J.product,.int .i64 J.version,sl 2 bD J.uses,sl 3 jb J.results,.str J.partner,.bool J.ax,.int .i64 J.au]]=En (.int .i64 r,Ga):=by
 unfold f224 at h;refine jz DM ?_
 repeat' first|(replace h:=qb h;obtain⟨d,g,h⟩:=h;with_reducible first|replace g:=j3c g|replace g:=zeq g|replace g:=W85 g|(replace g:=jy7 O J g;rcases d with d|d<;>dsimp only[Sf,Sg,zc]at g h)|skip)|(replace h:=qc h;rcases h with⟨g,h⟩|⟨g,h⟩)
 all_goals (cases h<;>(simp only[go_sem,seval,DM, *];exact⟨_,rfl⟩))
def Ci (O:av)(J:aj)(V:(ak aj)×Int×Bool):Option (((ak aj)×Int×Bool)⊕(((ak aj)×Bool×Int))):=
 cond (decide (V.2.1<((O.units.getD []).length:Int)))
  (qa (ql (O.units.getD []) V.2.1) fun v20=>
  qa (f156 v20 J) fun v22=>
  cond v22
   (cond V.2.2
    (qa (bB V.1 [v20.name]) fun v26=>
    En (.inl (v26,qd .i64 (V.2.1+1),Gb)))
    (cond V.1.isNone
     (qa (bB V.1 [v20.name]) fun dJ=>
     En (.inl (dJ,qd .i64 (V.2.1+1),Gb)))
     (Ha)))
   (En (.inl (V.1,qd .i64 (V.2.1+1),V.2.2))))
  (En (.inr (V.1,V.2.2,V.2.1)))
def Si (O:av)(J:aj)(V:(ak aj)×Int×Bool):bg:=⟨[(1,.str J,Ga),(2,.aq (aR O),Ga),(5,sl 1 qx V.1,V.2.2),(6,Iv V.2.1,Ga)],[]⟩
def Sj (O:av)(J:aj)(d:((ak aj)×Bool×Int)):q9×bg:=(.exit 0,⟨[(1,.str J,Ga),(2,.aq (aR O),Ga),(5,sl 1 qx d.1,d.2.1),(6,Iv d.2.2,Ga),(11,.bool Ga,Ga)],[]⟩)
theorem j44 (O:av)(J:aj)(V:(ak aj)×Int×Bool)(r)(h:Ci O J V=En r):jo pr Sk (Si O J) (Sj O J) V r:=by
 unfold Ci at h
 repeat' first|(replace h:=qb h;obtain⟨d,g,h⟩:=h;with_reducible first|replace g:=zfl g|replace g:=tI g|skip)|(replace h:=qc h;rcases h with⟨g,h⟩|⟨g,h⟩)
 all_goals (cases h<;>((first|refine qn ?_|refine jr ?_);simp only[go_sem,seval,Sk,Si,ji,Sj, *]<;>rfl))
theorem j5l (O:av)(J:aj){V d}(h:bd (Ci O J) V=En d):X pr (.loop Sk) (Si O J V)=En (Sj O J d):=zz (j44 O J) h
def f81 (O:av)(J:aj):Option ((ak aj)×Bool):=
 qa (bd (Ci O J) (Ha,0,Ga)) fun d31=>
 En (d31.1,d31.2.1)
theorem W81 {O J r}(h:f81 O J=En r):ae pr (X pr) 81 [aR O,.str J]=En (sl 1 qx r.1,r.2):=by
 unfold f81 at h;refine yc c81 ?_
 repeat' first|(replace h:=qb h;obtain⟨d,g,h⟩:=h;with_reducible first|(replace g:=j5l O J g;dsimp only[Si,Sj,zc]at g h)|skip)|(replace h:=qc h;rcases h with⟨g,h⟩|⟨g,h⟩)
 all_goals (cases h<;>(simp only[go_sem,seval,c81, *];exact⟨_,rfl⟩))
def KF (O:av)(J:aj)(V:Int×Int):Option ((Int×Int)⊕((Int×Int))):=
 cond (decide (V.2<((O.ay.getD []).length:Int)))
  (qa (ql (O.ay.getD []) V.2) fun v12=>
  cond (decide (v12.kind=J))
   (cond v12.held
    (En (.inl (V.1,qd .i64 (V.2+1))))
    (En (.inl (qd .i64 (V.1+v12.left),qd .i64 (V.2+1)))))
   (En (.inl (V.1,qd .i64 (V.2+1)))))
  (En (.inr (V.1,V.2)))
def Sl (O:av)(J:aj)(V:Int×Int):bg:=⟨[(1,.str J,Ga),(2,.aq (aR O),Ga),(5,Iv V.1,Ga),(6,Iv V.2,Ga)],[]⟩
def Sm (O:av)(J:aj)(d:(Int×Int)):q9×bg:=(.exit 0,⟨[(1,.str J,Ga),(2,.aq (aR O),Ga),(5,Iv d.1,Ga),(6,Iv d.2,Ga),(11,.bool Ga,Ga)],[]⟩)
theorem j79 (O:av)(J:aj)(V:Int×Int)(r)(h:KF O J V=En r):jo pr Sn (Sl O J) (Sm O J) V r:=by
 unfold KF at h
 repeat' first|(replace h:=qb h;obtain⟨d,g,h⟩:=h)|(replace h:=qc h;rcases h with⟨g,h⟩|⟨g,h⟩)
 all_goals (cases h<;>((first|refine qn ?_|refine jr ?_);simp only[go_sem,seval,Sn,Sl,ji,Sm, *]<;>rfl))
theorem j6g (O:av)(J:aj){V d}(h:bd (KF O J) V=En d):X pr (.loop Sn) (Sl O J V)=En (Sm O J d):=zz (j79 O J) h
def f79 (O:av)(J:aj):Option Int:=
 qa (bd (KF O J) (0,0)) fun d16=>
 En d16.1
theorem W79 {O J r}(h:f79 O J=En r):ae pr (X pr) 79 [aR O,.str J]=En (Iv r,Ga):=by
 unfold f79 at h;refine jz c79 ?_
 repeat' first|(replace h:=qb h;obtain⟨d,g,h⟩:=h;with_reducible first|(replace g:=j6g O J g;dsimp only[Sl,Sm,zc]at g h)|skip)|(replace h:=qc h;rcases h with⟨g,h⟩|⟨g,h⟩)
 all_goals (cases h<;>(simp only[go_sem,seval,c79, *];exact⟨_,rfl⟩))
end Go.Z
namespace Go.Z
open Go Go.Abs Go.W
def f151 (O:Int)(J:Int)(a2:Int):Option Bool:=
 cond (decide (O<J))
  (En Gb)
  (En (decide (a2<O)))
theorem jln {O J a2 r}(h:f151 O J a2=En r):ae pr (X pr) 151 [Iv O,Iv J,Iv a2]=En (.bool r,Ga):=by
 unfold f151 at h;refine jz DN ?_
 repeat' first|(replace h:=qc h;rcases h with⟨g,h⟩|⟨g,h⟩)
 all_goals (cases h<;>(simp only[go_sem,seval,DN, *];exact⟨_,rfl⟩))
end Go.Z
namespace Go.Z
open Go Go.Abs Go.W
def f145 (O:Int)(J:av)(a2:aj):Option Bool:=
 qa (ql (J.ay.getD []) O) fun v1=>
 En (decide (v1.name=a2))
theorem zgm (hp:qh){O J a2 r}(h:f145 O J a2=En r):ai pr (X pr) 145 [Iv O,.aq (aR J),.aq (.str a2)] hp=En (.bool r,Ga,hp):=by
 unfold f145 at h;obtain⟨v1,I,h⟩:=qb h;have Q:decide (v1.name=a2)=r:=En.inj h;subst Q;rw[qg (show pr.br 145=En DP from rfl) (by simp)];simp only[go_sem,seval,DP,jn I]<;>rfl
def J7 (O:Int)(aw:av)(b9:aj)(V:Int):Option (Int⊕(Int⊕Int)):=
 cond (decide (V<O))
  (qa (f145 V aw b9) fun v10=>
  cond v10
   (En (.inr (.inl V)))
   (En (.inl (qd .i64 (V+1)))))
  (En (.inr (.inr V)))
def So (O:Int)(aw:av)(b9:aj)(V:Int):bg:=⟨[(1,.fn (.func 145) [] [.aq (aR aw),.aq (.str b9)],Ga),(5,Iv (-1),Ga),(7,Iv O,Ga),(8,Iv V,Ga)],[]⟩
def Sp (O:Int)(aw:av)(b9:aj):Int⊕Int->q9×bg
 | .inl d=>(.exit 0,⟨[(5,Iv d,Ga)],[]⟩)| .inr d=>(.exit 0,⟨[(1,.fn (.func 145) [] [.aq (aR aw),.aq (.str b9)],Ga),(5,Iv (-1),Ga),(7,Iv O,Ga),(8,Iv d,Ga),(9,.bool Ga,Ga)],[]⟩)
theorem jsj (O:Int)(aw:av)(b9:aj)(V:Int)(r)(h:J7 O aw b9 V=En r):jo pr wL (So O aw b9) (Sp O aw b9) V r:=by
 unfold J7 at h
 repeat' first|(replace h:=qb h;obtain⟨d,g,h⟩:=h;with_reducible first|replace g:=zgm [] g|skip)|(replace h:=qc h;rcases h with⟨g,h⟩|⟨g,h⟩)
 all_goals (cases h<;>((first|refine qn ?_|refine jr ?_);simp only[go_sem,seval,wL,So,Sp, *]<;>rfl))
theorem jt2 (O:Int)(aw:av)(b9:aj){V d}(h:bd (J7 O aw b9) V=En d):X pr (.loop wL) (So O aw b9 V)=En (Sp O aw b9 d):=zz (jsj O aw b9) h
def J6 (O:Int)(aw:av)(b9:aj):Option Int:=
 qa (bd (J7 O aw b9) 0) fun d13=>match d13 with
  | .inl d15=>
   En d15
  | .inr d16=>
   En (-1)
theorem j8l {O aw b9 r}(h:J6 O aw b9=En r):ae pr (X pr) 144 [Iv O,.fn (.func 145) [] [.aq (aR aw),.aq (.str b9)]]=En (Iv r,Ga):=by
 unfold J6 at h;refine jz pk ?_
 repeat' first|(replace h:=qb h;obtain⟨d,g,h⟩:=h;with_reducible first|(replace g:=jt2 O aw b9 g;rcases d with d|d<;>dsimp only[So,Sp,zc]at g h)|skip)|(replace h:=qc h;rcases h with⟨g,h⟩|⟨g,h⟩)
 all_goals (cases h<;>(simp only[go_sem,seval,pk, *];exact⟨_,rfl⟩))
def f58 (O:av)(J:aj):Option Int:=
 qa (J6 ((O.ay.getD []).length:Int) O J) fun v1=>
 En v1
theorem Dk {O J r}(h:f58 O J=En r):ae pr (X pr) 58 [aR O,.str J]=En (Iv r,Ga):=by
 unfold f58 at h;refine jz c58 ?_
 repeat' first|(replace h:=qb h;obtain⟨d,g,h⟩:=h;with_reducible first|replace g:=j8l g|skip)|(replace h:=qc h;rcases h with⟨g,h⟩|⟨g,h⟩)
 all_goals (cases h<;>(simp only[go_sem,seval,c58, *];exact⟨_,rfl⟩))
def f166 (O:Int)(J:av)(a2:aj):Option Bool:=
 qa (ql (J.ah.getD []) O) fun v1=>
 En (decide (v1.name=a2))
theorem zi7 (hp:qh){O J a2 r}(h:f166 O J a2=En r):ai pr (X pr) 166 [Iv O,.aq (aR J),.aq (.str a2)] hp=En (.bool r,Ga,hp):=by
 unfold f166 at h;obtain⟨v1,I,h⟩:=qb h;have Q:decide (v1.name=a2)=r:=En.inj h;subst Q;rw[qg (show pr.br 166=En DQ from rfl) (by simp)];simp only[go_sem,seval,DQ,jn I]<;>rfl
def J9 (O:Int)(aw:av)(b9:aj)(V:Int):Option (Int⊕(Int⊕Int)):=
 cond (decide (V<O))
  (qa (f166 V aw b9) fun v10=>
  cond v10
   (En (.inr (.inl V)))
   (En (.inl (qd .i64 (V+1)))))
  (En (.inr (.inr V)))
def Sr (O:Int)(aw:av)(b9:aj)(V:Int):bg:=⟨[(1,.fn (.func 166) [] [.aq (aR aw),.aq (.str b9)],Ga),(5,Iv (-1),Ga),(7,Iv O,Ga),(8,Iv V,Ga)],[]⟩
def Ss (O:Int)(aw:av)(b9:aj):Int⊕Int->q9×bg
 | .inl d=>(.exit 0,⟨[(5,Iv d,Ga)],[]⟩)| .inr d=>(.exit 0,⟨[(1,.fn (.func 166) [] [.aq (aR aw),.aq (.str b9)],Ga),(5,Iv (-1),Ga),(7,Iv O,Ga),(8,Iv d,Ga),(9,.bool Ga,Ga)],[]⟩)
theorem jt8 (O:Int)(aw:av)(b9:aj)(V:Int)(r)(h:J9 O aw b9 V=En r):jo pr wL (Sr O aw b9) (Ss O aw b9) V r:=by
 unfold J9 at h
 repeat' first|(replace h:=qb h;obtain⟨d,g,h⟩:=h;with_reducible first|replace g:=zi7 [] g|skip)|(replace h:=qc h;rcases h with⟨g,h⟩|⟨g,h⟩)
 all_goals (cases h<;>((first|refine qn ?_|refine jr ?_);simp only[go_sem,seval,wL,Sr,Ss, *]<;>rfl))
theorem jsk (O:Int)(aw:av)(b9:aj){V d}(h:bd (J9 O aw b9) V=En d):X pr (.loop wL) (Sr O aw b9 V)=En (Ss O aw b9 d):=zz (jt8 O aw b9) h
def J8 (O:Int)(aw:av)(b9:aj):Option Int:=
 qa (bd (J9 O aw b9) 0) fun d13=>match d13 with
  | .inl d15=>
   En d15
  | .inr d16=>
   En (-1)
theorem j7h {O aw b9 r}(h:J8 O aw b9=En r):ae pr (X pr) 144 [Iv O,.fn (.func 166) [] [.aq (aR aw),.aq (.str b9)]]=En (Iv r,Ga):=by
 unfold J8 at h;refine jz pk ?_
 repeat' first|(replace h:=qb h;obtain⟨d,g,h⟩:=h;with_reducible first|(replace g:=jsk O aw b9 g;rcases d with d|d<;>dsimp only[Sr,Ss,zc]at g h)|skip)|(replace h:=qc h;rcases h with⟨g,h⟩|⟨g,h⟩)
 all_goals (cases h<;>(simp only[go_sem,seval,pk, *];exact⟨_,rfl⟩))
def f95 (O:av)(J:aj):Option Int:=
 qa (J8 ((O.ah.getD []).length:Int) O J) fun v1=>
 En v1
theorem sJ {O J r}(h:f95 O J=En r):ae pr (X pr) 95 [aR O,.str J]=En (Iv r,Ga):=by
 unfold f95 at h;refine jz c95 ?_
 repeat' first|(replace h:=qb h;obtain⟨d,g,h⟩:=h;with_reducible first|replace g:=j7h g|skip)|(replace h:=qc h;rcases h with⟨g,h⟩|⟨g,h⟩)
 all_goals (cases h<;>(simp only[go_sem,seval,c95, *];exact⟨_,rfl⟩))
def f150 (O:Int)(J:av)(a2:aj):Option Bool:=
 qa (ql (J.units.getD []) O) fun v1=>
 En (decide (v1.name=a2))
theorem zkb (hp:qh){O J a2 r}(h:f150 O J a2=En r):ai pr (X pr) 150 [Iv O,.aq (aR J),.aq (.str a2)] hp=En (.bool r,Ga,hp):=by
 unfold f150 at h;obtain⟨v1,I,h⟩:=qb h;have Q:decide (v1.name=a2)=r:=En.inj h;subst Q;rw[qg (show pr.br 150=En DR from rfl) (by simp)];simp only[go_sem,seval,DR,jn I]<;>rfl
def Kb (O:Int)(aw:av)(b9:aj)(V:Int):Option (Int⊕(Int⊕Int)):=
 cond (decide (V<O))
  (qa (f150 V aw b9) fun v10=>
  cond v10
   (En (.inr (.inl V)))
   (En (.inl (qd .i64 (V+1)))))
  (En (.inr (.inr V)))
def Sv (O:Int)(aw:av)(b9:aj)(V:Int):bg:=⟨[(1,.fn (.func 150) [] [.aq (aR aw),.aq (.str b9)],Ga),(5,Iv (-1),Ga),(7,Iv O,Ga),(8,Iv V,Ga)],[]⟩
def Sw (O:Int)(aw:av)(b9:aj):Int⊕Int->q9×bg
 | .inl d=>(.exit 0,⟨[(5,Iv d,Ga)],[]⟩)| .inr d=>(.exit 0,⟨[(1,.fn (.func 150) [] [.aq (aR aw),.aq (.str b9)],Ga),(5,Iv (-1),Ga),(7,Iv O,Ga),(8,Iv d,Ga),(9,.bool Ga,Ga)],[]⟩)
theorem jti (O:Int)(aw:av)(b9:aj)(V:Int)(r)(h:Kb O aw b9 V=En r):jo pr wL (Sv O aw b9) (Sw O aw b9) V r:=by
 unfold Kb at h
 repeat' first|(replace h:=qb h;obtain⟨d,g,h⟩:=h;with_reducible first|replace g:=zkb [] g|skip)|(replace h:=qc h;rcases h with⟨g,h⟩|⟨g,h⟩)
 all_goals (cases h<;>((first|refine qn ?_|refine jr ?_);simp only[go_sem,seval,wL,Sv,Sw, *]<;>rfl))
theorem js7 (O:Int)(aw:av)(b9:aj){V d}(h:bd (Kb O aw b9) V=En d):X pr (.loop wL) (Sv O aw b9 V)=En (Sw O aw b9 d):=zz (jti O aw b9) h
def Ka (O:Int)(aw:av)(b9:aj):Option Int:=
 qa (bd (Kb O aw b9) 0) fun d13=>match d13 with
  | .inl d15=>
   En d15
  | .inr d16=>
   En (-1)
theorem j41 {O aw b9 r}(h:Ka O aw b9=En r):ae pr (X pr) 144 [Iv O,.fn (.func 150) [] [.aq (aR aw),.aq (.str b9)]]=En (Iv r,Ga):=by
 unfold Ka at h;refine jz pk ?_
 repeat' first|(replace h:=qb h;obtain⟨d,g,h⟩:=h;with_reducible first|(replace g:=js7 O aw b9 g;rcases d with d|d<;>dsimp only[Sv,Sw,zc]at g h)|skip)|(replace h:=qc h;rcases h with⟨g,h⟩|⟨g,h⟩)
 all_goals (cases h<;>(simp only[go_sem,seval,pk, *];exact⟨_,rfl⟩))
def f69 (O:av)(J:aj):Option Int:=
 qa (Ka ((O.units.getD []).length:Int) O J) fun v1=>
 En v1
theorem uo {O J r}(h:f69 O J=En r):ae pr (X pr) 69 [aR O,.str J]=En (Iv r,Ga):=by
 unfold f69 at h;refine jz c69 ?_
 repeat' first|(replace h:=qb h;obtain⟨d,g,h⟩:=h;with_reducible first|replace g:=j41 g|skip)|(replace h:=qc h;rcases h with⟨g,h⟩|⟨g,h⟩)
 all_goals (cases h<;>(simp only[go_sem,seval,c69, *];exact⟨_,rfl⟩))
def f104 (O:av)(J:Int)(a2:aj):Option Bool:=
 cond (decide (J=108))
  (qa (f58 O a2) fun v2=>
  En (decide (0<=v2)))
  (cond (decide (J=112))
   (qa (f95 O a2) fun v5=>
   En (decide (0<=v5)))
   (cond (decide (J=117))
    (qa (f69 O a2) fun v8=>
    En (decide (0<=v8)))
    (En Gb)))
theorem j3d {O J a2 r}(h:f104 O J a2=En r):ae pr (X pr) 104 [aR O,.int .i32 J,.str a2]=En (.bool r,Ga):=by
 unfold f104 at h;refine jz jR ?_
 repeat' first|(replace h:=qb h;obtain⟨d,g,h⟩:=h;with_reducible first|replace g:=Dk g|replace g:=sJ g|replace g:=uo g|skip)|(replace h:=qc h;rcases h with⟨g,h⟩|⟨g,h⟩)
 all_goals (cases h<;>(simp only[go_sem,seval,jR, *];exact⟨_,rfl⟩))
def f96 (O:bw):Option Int:=
 En ((O.bm.getD []).length:Int)
theorem W96 {O r}(h:f96 O=En r):ae pr (X pr) 96 [aP O]=En (Iv r,Ga):=by
 unfold f96 at h;have Q:((O.bm.getD []).length:Int)=r:=En.inj h;subst Q
 have this:∃hh,ai pr (X pr) 96 [aP O] []=En (Lv O.bm,Ga,hh):=by
  rw[qg (show pr.br 96=En c96 from rfl) (by simp)];simp only[go_sem,seval,c96];exact⟨_,rfl⟩
 obtain⟨hh,this⟩:=this;exact je rfl this (by first|rfl|simp only[go_sem,seval]) (by first|rfl|simp only[go_sem,seval])
def f198 (O:av)(J:bz):Option Int:=
 qa (f95 O J.product) fun v1=>
 qa (ql (O.ah.getD []) v1) fun v3=>
 qa (f96 v3) fun v5=>
 En v5
theorem jzu {O J r}(h:f198 O J=En r):ae pr (X pr) 198 [aR O,aU J]=En (Iv r,Ga):=by
 unfold f198 at h;refine jz DS ?_
 repeat' first|(replace h:=qb h;obtain⟨d,g,h⟩:=h;with_reducible first|replace g:=sJ g|replace g:=W96 g|skip)|(replace h:=qc h;rcases h with⟨g,h⟩|⟨g,h⟩)
 all_goals (cases h<;>(simp only[go_sem,seval,DS,ji, *];exact⟨_,rfl⟩))
def f161 (O:av)(J:bz):Option cn:=
 qa (f95 O J.product) fun v1=>
 qa (ql (O.ah.getD []) v1) fun v3=>
 qa (ql (v3.bm.getD []) (qd .i64 (J.version-1))) fun v5=>
 En v5
theorem Sx {O J r}(h:f161 O J=En r):ae pr (X pr) 161 [aR O,aU J]=En (aD r,Ga):=by
 unfold f161 at h;refine jz DT ?_
 repeat' first|(replace h:=qb h;obtain⟨d,g,h⟩:=h;with_reducible first|replace g:=sJ g|skip)|(replace h:=qc h;rcases h with⟨g,h⟩|⟨g,h⟩)
 all_goals (cases h<;>(simp only[go_sem,seval,DT,ji, *];exact⟨_,rfl⟩))
def BQ (O:bz)(J:jh)(V:Int×aj×Int×Int):Option ((Int×aj×Int×Int)⊕((Int×aj×Int×Int))):=
 cond (decide (V.1<((O.results.getD []).length:Int)))
  (qa (ql (O.results.getD []) V.1) fun v12=>
  cond (decide (v12.k=J.k))
   (cond (decide (v12.a=O.version))
    (En (.inl (qd .i64 (V.1+1),v12.k,v12.a,v12.b)))
    (En (.inl (qd .i64 (V.1+1),V.2.1,V.2.2.1,V.2.2.2))))
   (En (.inl (qd .i64 (V.1+1),V.2.1,V.2.2.1,V.2.2.2))))
  (En (.inr (V.1,V.2.1,V.2.2.1,V.2.2.2)))
def Sy (O:bz)(J:jh)(V:Int×aj×Int×Int):bg:=⟨[(2,.aq (aU O),Ga),(3,.aq (aT J),Ga),(5,.ptr 0 0,Ga),(10,sl 3 jb O.results,Ga),(11,Lv O.results,Ga),(12,Iv V.1,Ga)],[.cells [(.str V.2.1,Ga),(Iv V.2.2.1,Ga),(Iv V.2.2.2,Ga)]]⟩
def Sz (O:bz)(J:jh)(d:(Int×aj×Int×Int)):q9×bg:=(.exit 0,⟨[(2,.aq (aU O),Ga),(3,.aq (aT J),Ga),(5,.ptr 0 0,Ga),(10,sl 3 jb O.results,Ga),(11,Lv O.results,Ga),(12,Iv d.1,Ga),(13,.bool Ga,Ga)],[.cells [(.str d.2.1,Ga),(Iv d.2.2.1,Ga),(Iv d.2.2.2,Ga)]]⟩)
theorem j22 (O:bz)(J:jh)(V:Int×aj×Int×Int)(r)(h:BQ O J V=En r):jo pr SA (Sy O J) (Sz O J) V r:=by
 unfold BQ at h
 repeat' first|(replace h:=qb h;obtain⟨d,g,h⟩:=h)|(replace h:=qc h;rcases h with⟨g,h⟩|⟨g,h⟩)
 all_goals (cases h<;>((first|refine qn ?_|refine jr ?_);simp only[go_sem,seval,SA,Sy,ji,Sz, *]<;>rfl))
theorem jz7 (O:bz)(J:jh){V d}(h:bd (BQ O J) V=En d):X pr (.loop SA) (Sy O J V)=En (Sz O J d):=zz (j22 O J) h
def f163 (O:bz)(J:jh):Option Bool:=
 qa (bd (BQ O J) (0,[],(-1),0)) fun d16=>
 cond (decide (d16.2.1=[])&&decide (d16.2.2.1=(-1))&&decide (d16.2.2.2=0))
  (En Ga)
  (cond (decide (J.a<=d16.2.2.2))
   (En (decide (d16.2.2.2<=J.b)))
   (En Ga))
theorem zhe {O J r}(h:f163 O J=En r):ae pr (X pr) 163 [aU O,aT J]=En (.bool r,Ga):=by
 unfold f163 at h;refine jz DU ?_
 repeat' first|(replace h:=qb h;obtain⟨d,g,h⟩:=h;with_reducible first|(replace g:=jz7 O J g;dsimp only[Sy,Sz,zc]at g h)|skip)|(replace h:=qc h;rcases h with⟨g,h⟩|⟨g,h⟩)
 all_goals (cases h<;>(simp only[go_sem,seval,DU, *];exact⟨_,rfl⟩))
def f162 (O:jh)(J:bz):Option Bool:=
 qa (f163 J O) fun v1=>
 En (!v1)
theorem ze7 (hp:qh){O J r}(h:f162 O J=En r):ai pr (X pr) 162 [aT O,.aq (aU J)] hp=En (.bool r,Ga,hp):=by
 unfold f162 at h;obtain⟨v1,I,h⟩:=qb h;have lC:ae pr (X pr) 163 [aU J,aT O]=En (.bool v1,Ga):=zhe I;have Q:(!v1)=r:=En.inj h;subst Q;rw[qg (show pr.br 162=En DV from rfl) (by simp)];simp only[go_sem,seval,DV,lC]<;>rfl
def Kc (O:ak jh)(aw:bz)(V:(ak jh)×Int×Bool):Option (((ak jh)×Int×Bool)⊕(((ak jh)×Bool×Int))):=
 cond (decide (V.2.1<((O.getD []).length:Int)))
  (qa (ql (O.getD []) V.2.1) fun v20=>
  qa (f162 v20 aw) fun v22=>
  cond v22
   (cond V.2.2
    (qa (bB V.1 [v20]) fun v26=>
    En (.inl (v26,qd .i64 (V.2.1+1),Gb)))
    (cond V.1.isNone
     (qa (bB V.1 [v20]) fun dJ=>
     En (.inl (dJ,qd .i64 (V.2.1+1),Gb)))
     (Ha)))
   (En (.inl (V.1,qd .i64 (V.2.1+1),V.2.2))))
  (En (.inr (V.1,V.2.2,V.2.1)))
def SC (O:ak jh)(aw:bz)(V:(ak jh)×Int×Bool):bg:=⟨[(1,.fn (.func 162) [] [.aq (aU aw)],Ga),(5,sl 3 jb V.1,V.2.2),(8,sl 3 jb O,Ga),(9,Lv O,Ga),(10,Iv V.2.1,Ga)],[]⟩
def SD (O:ak jh)(aw:bz)(d:((ak jh)×Bool×Int)):q9×bg:=(.exit 0,⟨[(1,.fn (.func 162) [] [.aq (aU aw)],Ga),(5,sl 3 jb d.1,d.2.1),(8,sl 3 jb O,Ga),(9,Lv O,Ga),(10,Iv d.2.2,Ga),(11,.bool Ga,Ga)],[]⟩)
theorem jzt (O:ak jh)(aw:bz)(V:(ak jh)×Int×Bool)(r)(h:Kc O aw V=En r):jo pr SE (SC O aw) (SD O aw) V r:=by
 unfold Kc at h
 repeat' first|(replace h:=qb h;obtain⟨d,g,h⟩:=h;with_reducible first|replace g:=ze7 [] g|replace g:=Gm g|skip)|(replace h:=qc h;rcases h with⟨g,h⟩|⟨g,h⟩)
 all_goals (cases h<;>((first|refine qn ?_|refine jr ?_);simp only[go_sem,seval,SE,SC,ji,SD, *]<;>rfl))
theorem j1e (O:ak jh)(aw:bz){V d}(h:bd (Kc O aw) V=En d):X pr (.loop SE) (SC O aw V)=En (SD O aw d):=zz (jzt O aw) h
def f160 (O:ak jh)(aw:bz):Option ((ak jh)×Bool):=
 qa (bd (Kc O aw) (Ha,0,Ga)) fun d31=>
 En (d31.1,d31.2.1)
theorem zdh {O aw r}(h:f160 O aw=En r):ae pr (X pr) 160 [sl 3 jb O,.fn (.func 162) [] [.aq (aU aw)]]=En (sl 3 jb r.1,r.2):=by
 unfold f160 at h;refine yc DW ?_
 repeat' first|(replace h:=qb h;obtain⟨d,g,h⟩:=h;with_reducible first|(replace g:=j1e O aw g;dsimp only[SC,SD,zc]at g h)|skip)|(replace h:=qc h;rcases h with⟨g,h⟩|⟨g,h⟩)
 all_goals (cases h<;>(simp only[go_sem,seval,DW, *];exact⟨_,rfl⟩))
def f165 (O:jh):Option aj:=
 En O.k
theorem zhp (hp:qh){O r}(h:f165 O=En r):ai pr (X pr) 165 [aT O] hp=En (.str r,Ga,hp):=by
 unfold f165 at h;have Q:O.k=r:=En.inj h;subst Q;rw[qg (show pr.br 165=En DX from rfl) (by simp)];simp only[go_sem,seval,DX]<;>rfl
def Ke (O:ak jh)(V:(ak aj)×Int×Bool):Option (((ak aj)×Int×Bool)⊕(((ak aj)×Bool×Int))):=
 cond (decide (V.2.1<((O.getD []).length:Int)))
  (qa (ql (O.getD []) V.2.1) fun eE=>
  qa (f165 eE) fun v20=>
  cond V.2.2
   (qa (bB V.1 [v20]) fun v23=>
   En (.inl (v23,qd .i64 (V.2.1+1),Gb)))
   (cond V.1.isNone
    (qa (bB V.1 [v20]) fun v26=>
    En (.inl (v26,qd .i64 (V.2.1+1),Gb)))
    (Ha)))
  (En (.inr (V.1,V.2.2,V.2.1)))
def SF (O:ak jh)(V:(ak aj)×Int×Bool):bg:=⟨[(1,.fn (.func 165) [] [],Ga),(5,sl 1 qx V.1,V.2.2),(8,sl 3 jb O,Ga),(9,Lv O,Ga),(10,Iv V.2.1,Ga)],[]⟩
def SG (O:ak jh)(d:((ak aj)×Bool×Int)):q9×bg:=(.exit 0,⟨[(1,.fn (.func 165) [] [],Ga),(5,sl 1 qx d.1,d.2.1),(8,sl 3 jb O,Ga),(9,Lv O,Ga),(10,Iv d.2.2,Ga),(11,.bool Ga,Ga)],[]⟩)
theorem j3g (O:ak jh)(V:(ak aj)×Int×Bool)(r)(h:Ke O V=En r):jo pr SH (SF O) (SG O) V r:=by
 unfold Ke at h
 repeat' first|(replace h:=qb h;obtain⟨d,g,h⟩:=h;with_reducible first|replace g:=zhp [] g|replace g:=tI g|skip)|(replace h:=qc h;rcases h with⟨g,h⟩|⟨g,h⟩)
 all_goals (cases h<;>((first|refine qn ?_|refine jr ?_);simp only[go_sem,seval,SH,SF,ji,SG, *]<;>rfl))
theorem j29 (O:ak jh){V d}(h:bd (Ke O) V=En d):X pr (.loop SH) (SF O V)=En (SG O d):=zz (j3g O) h
def f164 (O:ak jh):Option ((ak aj)×Bool):=
 qa (bd (Ke O) (Ha,0,Ga)) fun d28=>
 En (d28.1,d28.2.1)
theorem ze5 {O r}(h:f164 O=En r):ae pr (X pr) 164 [sl 3 jb O,.fn (.func 165) [] []]=En (sl 1 qx r.1,r.2):=by
 unfold f164 at h;refine yc DY ?_
 repeat' first|(replace h:=qb h;obtain⟨d,g,h⟩:=h;with_reducible first|(replace g:=j29 O g;dsimp only[SF,SG,zc]at g h)|skip)|(replace h:=qc h;rcases h with⟨g,h⟩|⟨g,h⟩)
 all_goals (cases h<;>(simp only[go_sem,seval,DY, *];exact⟨_,rfl⟩))
def f91 (O:av)(J:bz):Option ((ak aj)×Bool):=
 qa (f161 O J) fun v1=>
 qa (f160 v1.aS J) fun v3=>
 qa (f164 v3.1) fun v5=>
 En (v5.1,v5.2)
theorem W91 {O J r}(h:f91 O J=En r):ae pr (X pr) 91 [aR O,aU J]=En (sl 1 qx r.1,r.2):=by
 unfold f91 at h;refine yc c91 ?_
 repeat' first|(replace h:=qb h;obtain⟨d,g,h⟩:=h;with_reducible first|replace g:=Sx g|replace g:=zdh g|replace g:=ze5 g|skip)|(replace h:=qc h;rcases h with⟨g,h⟩|⟨g,h⟩)
 all_goals (cases h<;>(simp only[go_sem,seval,c91, *];exact⟨_,rfl⟩))
def f148 (O:bG):Option aj:=
 En O.k
theorem zd3 (hp:qh){O r}(h:f148 O=En r):ai pr (X pr) 148 [aN O] hp=En (.str r,Ga,hp):=by
 unfold f148 at h;have Q:O.k=r:=En.inj h;subst Q;rw[qg (show pr.br 148=En DZ from rfl) (by simp)];simp only[go_sem,seval,DZ]<;>rfl
def KD (O:ak bG)(V:(ak aj)×Int×Bool):Option (((ak aj)×Int×Bool)⊕(((ak aj)×Bool×Int))):=
 cond (decide (V.2.1<((O.getD []).length:Int)))
  (qa (ql (O.getD []) V.2.1) fun eE=>
  qa (f148 eE) fun v20=>
  cond V.2.2
   (qa (bB V.1 [v20]) fun v23=>
   En (.inl (v23,qd .i64 (V.2.1+1),Gb)))
   (cond V.1.isNone
    (qa (bB V.1 [v20]) fun v26=>
    En (.inl (v26,qd .i64 (V.2.1+1),Gb)))
    (Ha)))
  (En (.inr (V.1,V.2.2,V.2.1)))
def SI (O:ak bG)(V:(ak aj)×Int×Bool):bg:=⟨[(1,.fn (.func 148) [] [],Ga),(5,sl 1 qx V.1,V.2.2),(8,sl 2 bD O,Ga),(9,Lv O,Ga),(10,Iv V.2.1,Ga)],[]⟩
def SJ (O:ak bG)(d:((ak aj)×Bool×Int)):q9×bg:=(.exit 0,⟨[(1,.fn (.func 148) [] [],Ga),(5,sl 1 qx d.1,d.2.1),(8,sl 2 bD O,Ga),(9,Lv O,Ga),(10,Iv d.2.2,Ga),(11,.bool Ga,Ga)],[]⟩)
theorem jwz (O:ak bG)(V:(ak aj)×Int×Bool)(r)(h:KD O V=En r):jo pr SK (SI O) (SJ O) V r:=by
 unfold KD at h
 repeat' first|(replace h:=qb h;obtain⟨d,g,h⟩:=h;with_reducible first|replace g:=zd3 [] g|replace g:=tI g|skip)|(replace h:=qc h;rcases h with⟨g,h⟩|⟨g,h⟩)
 all_goals (cases h<;>((first|refine qn ?_|refine jr ?_);simp only[go_sem,seval,SK,SI,ji,SJ, *]<;>rfl))
theorem j04 (O:ak bG){V d}(h:bd (KD O) V=En d):X pr (.loop SK) (SI O V)=En (SJ O d):=zz (jwz O) h
def f147 (O:ak bG):Option ((ak aj)×Bool):=
 qa (bd (KD O) (Ha,0,Ga)) fun d28=>
 En (d28.1,d28.2.1)
theorem zdu {O r}(h:f147 O=En r):ae pr (X pr) 147 [sl 2 bD O,.fn (.func 148) [] []]=En (sl 1 qx r.1,r.2):=by
 unfold f147 at h;refine yc D0 ?_
 repeat' first|(replace h:=qb h;obtain⟨d,g,h⟩:=h;with_reducible first|(replace g:=j04 O g;dsimp only[SI,SJ,zc]at g h)|skip)|(replace h:=qc h;rcases h with⟨g,h⟩|⟨g,h⟩)
 all_goals (cases h<;>(simp only[go_sem,seval,D0, *];exact⟨_,rfl⟩))
def f61 (O:bz):Option ((ak aj)×Bool):=
 qa (f147 O.uses) fun v1=>
 En (v1.1,v1.2)
theorem W61 {O r}(h:f61 O=En r):ae pr (X pr) 61 [aU O]=En (sl 1 qx r.1,r.2):=by
 unfold f61 at h;refine yc c61 ?_
 repeat' first|(replace h:=qb h;obtain⟨d,g,h⟩:=h;with_reducible first|replace g:=zdu g|skip)|(replace h:=qc h;rcases h with⟨g,h⟩|⟨g,h⟩)
 all_goals (cases h<;>(simp only[go_sem,seval,c61, *];exact⟨_,rfl⟩))
def f159 (O:bz)(J:aj):Option Bool:=
 qa (f61 O) fun v1=>
 qa (f63 v1.1 J) fun v3=>
 En v3
theorem ziy (hp:qh){O J r}(h:f159 O J=En r):ai pr (X pr) 159 [aU O,.aq (.str J)] hp=En (.bool r,Ga,hp):=by
 unfold f159 at h;rw[qg (show pr.br 159=En D1 from rfl) (by simp)]
 repeat' first|(replace h:=qb h;obtain⟨d,g,h⟩:=h;with_reducible first|replace g:=W61 g|replace g:=QF g|skip)|(replace h:=qc h;rcases h with⟨g,h⟩|⟨g,h⟩)
 all_goals (cases h<;>(simp only[go_sem,seval,D1, *]<;>rfl))
def KE (O:ak bz)(aw:aj)(V:(ak bz)×Int×Bool):Option (((ak bz)×Int×Bool)⊕(((ak bz)×Bool×Int))):=
 cond (decide (V.2.1<((O.getD []).length:Int)))
  (qa (ql (O.getD []) V.2.1) fun v20=>
  qa (f159 v20 aw) fun v22=>
  cond v22
   (cond V.2.2
    (qa (bB V.1 [v20]) fun v26=>
    En (.inl (v26,qd .i64 (V.2.1+1),Gb)))
    (cond V.1.isNone
     (qa (bB V.1 [v20]) fun dJ=>
     En (.inl (dJ,qd .i64 (V.2.1+1),Gb)))
     (Ha)))
   (En (.inl (V.1,qd .i64 (V.2.1+1),V.2.2))))
  (En (.inr (V.1,V.2.2,V.2.1)))
def SL (O:ak bz)(aw:aj)(V:(ak bz)×Int×Bool):bg:=⟨[(1,.fn (.func 159) [] [.aq (.str aw)],Ga),(5,sl 8 bI V.1,V.2.2),(8,sl 8 bI O,Ga),(9,Lv O,Ga),(10,Iv V.2.1,Ga)],[]⟩
def SN (O:ak bz)(aw:aj)(d:((ak bz)×Bool×Int)):q9×bg:=(.exit 0,⟨[(1,.fn (.func 159) [] [.aq (.str aw)],Ga),(5,sl 8 bI d.1,d.2.1),(8,sl 8 bI O,Ga),(9,Lv O,Ga),(10,Iv d.2.2,Ga),(11,.bool Ga,Ga)],[]⟩)
theorem j48 (O:ak bz)(aw:aj)(V:(ak bz)×Int×Bool)(r)(h:KE O aw V=En r):jo pr C5 (SL O aw) (SN O aw) V r:=by
 unfold KE at h
 repeat' first|(replace h:=qb h;obtain⟨d,g,h⟩:=h;with_reducible first|replace g:=ziy [] g|replace g:=Pb g|skip)|(replace h:=qc h;rcases h with⟨g,h⟩|⟨g,h⟩)
 all_goals (cases h<;>((first|refine qn ?_|refine jr ?_);simp only[go_sem,seval,C5,SL,ji,SN, *]<;>rfl))
theorem j64 (O:ak bz)(aw:aj){V d}(h:bd (KE O aw) V=En d):X pr (.loop C5) (SL O aw V)=En (SN O aw d):=zz (j48 O aw) h
def f64 (O:ak bz)(aw:aj):Option ((ak bz)×Bool):=
 qa (bd (KE O aw) (Ha,0,Ga)) fun d31=>
 En (d31.1,d31.2.1)
theorem W64 {O aw r}(h:f64 O aw=En r):ae pr (X pr) 64 [sl 8 bI O,.fn (.func 159) [] [.aq (.str aw)]]=En (sl 8 bI r.1,r.2):=by
 unfold f64 at h;refine yc LK ?_
 repeat' first|(replace h:=qb h;obtain⟨d,g,h⟩:=h;with_reducible first|(replace g:=j64 O aw g;dsimp only[SL,SN,zc]at g h)|skip)|(replace h:=qc h;rcases h with⟨g,h⟩|⟨g,h⟩)
 all_goals (cases h<;>(simp only[go_sem,seval,LK, *];exact⟨_,rfl⟩))
def f67 (O:bz):Option aj:=
 En O.name
theorem W67 (hp:qh){O r}(h:f67 O=En r):ai pr (X pr) 67 [aU O] hp=En (.str r,Ga,hp):=by
 unfold f67 at h;have Q:O.name=r:=En.inj h;subst Q;rw[qg (show pr.br 67=En c67 from rfl) (by simp)];simp only[go_sem,seval,c67]<;>rfl
def GN (O:ak bz)(V:(ak aj)×Int×Bool):Option (((ak aj)×Int×Bool)⊕(((ak aj)×Bool×Int))):=
 cond (decide (V.2.1<((O.getD []).length:Int)))
  (qa (ql (O.getD []) V.2.1) fun eE=>
  qa (f67 eE) fun v20=>
  cond V.2.2
   (qa (bB V.1 [v20]) fun v23=>
   En (.inl (v23,qd .i64 (V.2.1+1),Gb)))
   (cond V.1.isNone
    (qa (bB V.1 [v20]) fun v26=>
    En (.inl (v26,qd .i64 (V.2.1+1),Gb)))
    (Ha)))
  (En (.inr (V.1,V.2.2,V.2.1)))
def SP (O:ak bz)(V:(ak aj)×Int×Bool):bg:=⟨[(1,.fn (.func 67) [] [],Ga),(5,sl 1 qx V.1,V.2.2),(8,sl 8 bI O,Ga),(9,Lv O,Ga),(10,Iv V.2.1,Ga)],[]⟩
def SQ (O:ak bz)(d:((ak aj)×Bool×Int)):q9×bg:=(.exit 0,⟨[(1,.fn (.func 67) [] [],Ga),(5,sl 1 qx d.1,d.2.1),(8,sl 8 bI O,Ga),(9,Lv O,Ga),(10,Iv d.2.2,Ga),(11,.bool Ga,Ga)],[]⟩)
theorem j58 (O:ak bz)(V:(ak aj)×Int×Bool)(r)(h:GN O V=En r):jo pr SR (SP O) (SQ O) V r:=by
 unfold GN at h
 repeat' first|(replace h:=qb h;obtain⟨d,g,h⟩:=h;with_reducible first|replace g:=W67 [] g|replace g:=tI g|skip)|(replace h:=qc h;rcases h with⟨g,h⟩|⟨g,h⟩)
 all_goals (cases h<;>((first|refine qn ?_|refine jr ?_);simp only[go_sem,seval,SR,SP,ji,SQ, *]<;>rfl))
theorem j86 (O:ak bz){V d}(h:bd (GN O) V=En d):X pr (.loop SR) (SP O V)=En (SQ O d):=zz (j58 O) h
def f65 (O:ak bz):Option ((ak aj)×Bool):=
 qa (bd (GN O) (Ha,0,Ga)) fun d28=>
 En (d28.1,d28.2.1)
theorem W65 {O r}(h:f65 O=En r):ae pr (X pr) 65 [sl 8 bI O,.fn (.func 67) [] []]=En (sl 1 qx r.1,r.2):=by
 unfold f65 at h;refine yc c65 ?_
 repeat' first|(replace h:=qb h;obtain⟨d,g,h⟩:=h;with_reducible first|(replace g:=j86 O g;dsimp only[SP,SQ,zc]at g h)|skip)|(replace h:=qc h;rcases h with⟨g,h⟩|⟨g,h⟩)
 all_goals (cases h<;>(simp only[go_sem,seval,c65, *];exact⟨_,rfl⟩))
def f89 (O:av)(J:aj):Option ((ak aj)×Bool):=
 qa (f64 O.units J) fun v1=>
 qa (f65 v1.1) fun v3=>
 En (v3.1,v3.2)
theorem W89 {O J r}(h:f89 O J=En r):ae pr (X pr) 89 [aR O,.str J]=En (sl 1 qx r.1,r.2):=by
 unfold f89 at h;refine yc c89 ?_
 repeat' first|(replace h:=qb h;obtain⟨d,g,h⟩:=h;with_reducible first|replace g:=W64 g|replace g:=W65 g|skip)|(replace h:=qc h;rcases h with⟨g,h⟩|⟨g,h⟩)
 all_goals (cases h<;>(simp only[go_sem,seval,c89, *];exact⟨_,rfl⟩))
def xJ (O:av)(J:aj)(V:Int×Int):Option ((Int×Int)⊕((Int×Int))):=
 cond (decide (V.2<((O.ay.getD []).length:Int)))
  (qa (ql (O.ay.getD []) V.2) fun v12=>
  cond (decide (v12.kind=J))
   (cond v12.held
    (En (.inl (V.1,qd .i64 (V.2+1))))
    (En (.inl (qd .i64 (V.1+v12.left),qd .i64 (V.2+1)))))
   (En (.inl (V.1,qd .i64 (V.2+1)))))
  (En (.inr (V.1,V.2)))
def SU (O:av)(J:aj)(V:Int×Int):bg:=⟨[(1,.str J,Ga),(5,Iv V.1,Ga),(9,sl 5 jf O.ay,Ga),(10,Lv O.ay,Ga),(11,Iv V.2,Ga)],[]⟩
def SV (O:av)(J:aj)(d:(Int×Int)):q9×bg:=(.exit 0,⟨[(1,.str J,Ga),(5,Iv d.1,Ga),(9,sl 5 jf O.ay,Ga),(10,Lv O.ay,Ga),(11,Iv d.2,Ga),(12,.bool Ga,Ga)],[]⟩)
theorem j9u (O:av)(J:aj)(V:Int×Int)(r)(h:xJ O J V=En r):jo pr SW (SU O J) (SV O J) V r:=by
 unfold xJ at h
 repeat' first|(replace h:=qb h;obtain⟨d,g,h⟩:=h)|(replace h:=qc h;rcases h with⟨g,h⟩|⟨g,h⟩)
 all_goals (cases h<;>((first|refine qn ?_|refine jr ?_);simp only[go_sem,seval,SW,SU,ji,SV, *]<;>rfl))
theorem j97 (O:av)(J:aj){V d}(h:bd (xJ O J) V=En d):X pr (.loop SW) (SU O J V)=En (SV O J d):=zz (j9u O J) h
def f93 (O:av)(J:aj):Option Int:=
 qa (bd (xJ O J) (0,0)) fun d16=>
 En d16.1
theorem W93 {O J r}(h:f93 O J=En r):ae pr (X pr) 93 [aR O,.str J]=En (Iv r,Ga):=by
 unfold f93 at h;refine jz c93 ?_
 repeat' first|(replace h:=qb h;obtain⟨d,g,h⟩:=h;with_reducible first|(replace g:=j97 O J g;dsimp only[SU,SV,zc]at g h)|skip)|(replace h:=qc h;rcases h with⟨g,h⟩|⟨g,h⟩)
 all_goals (cases h<;>(simp only[go_sem,seval,c93, *];exact⟨_,rfl⟩))
end Go.Z
namespace Go.Z
open Go Go.Abs Go.W
def f226 (O:ak jk):Option ((ak jk)×Bool):=
 cond O.isNone
  (En (Ha,Ga))
  (qa (bB (En []) (O.getD [])) fun v2=>
  En (v2,Gb))
theorem zj5 {O r}(h:f226 O=En r):ae pr (X pr) 226 [sl 5 jf O]=En (sl 5 jf r.1,r.2):=by
 unfold f226 at h;refine yc D3 ?_
 repeat' first|(replace h:=qb h;obtain⟨d,g,h⟩:=h)|(replace h:=qc h;rcases h with⟨g,h⟩|⟨g,h⟩)
 all_goals (cases h<;>(simp only[go_sem,seval,D3,kr, *];exact⟨_,rfl⟩))
def f227 (O:ak bw):Option ((ak bw)×Bool):=
 cond O.isNone
  (En (Ha,Ga))
  (qa (bB (En []) (O.getD [])) fun v2=>
  En (v2,Gb))
theorem zgq {O r}(h:f227 O=En r):ae pr (X pr) 227 [sl 4 qw O]=En (sl 4 qw r.1,r.2):=by
 unfold f227 at h;refine yc D5 ?_
 repeat' first|(replace h:=qb h;obtain⟨d,g,h⟩:=h)|(replace h:=qc h;rcases h with⟨g,h⟩|⟨g,h⟩)
 all_goals (cases h<;>(simp only[go_sem,seval,D5,kr, *];exact⟨_,rfl⟩))
def f240 (O:ak bz):Option ((ak bz)×Bool):=
 cond O.isNone
  (En (Ha,Ga))
  (qa (bB (En []) (O.getD [])) fun v2=>
  En (v2,Gb))
theorem zga {O r}(h:f240 O=En r):ae pr (X pr) 240 [sl 8 bI O]=En (sl 8 bI r.1,r.2):=by
 unfold f240 at h;refine yc D6 ?_
 repeat' first|(replace h:=qb h;obtain⟨d,g,h⟩:=h)|(replace h:=qc h;rcases h with⟨g,h⟩|⟨g,h⟩)
 all_goals (cases h<;>(simp only[go_sem,seval,D6,kr, *];exact⟨_,rfl⟩))
def f237 (O:ak cn):Option ((ak cn)×Bool):=
 cond O.isNone
  (En (Ha,Ga))
  (qa (bB (En []) (O.getD [])) fun v2=>
  En (v2,Gb))
theorem zej {O r}(h:f237 O=En r):ae pr (X pr) 237 [sl 2 yv O]=En (sl 2 yv r.1,r.2):=by
 unfold f237 at h;refine yc D7 ?_
 repeat' first|(replace h:=qb h;obtain⟨d,g,h⟩:=h)|(replace h:=qc h;rcases h with⟨g,h⟩|⟨g,h⟩)
 all_goals (cases h<;>(simp only[go_sem,seval,D7,kr, *];exact⟨_,rfl⟩))
def f238 (O:ak bG):Option ((ak bG)×Bool):=
 cond O.isNone
  (En (Ha,Ga))
  (qa (bB (En []) (O.getD [])) fun v2=>
  En (v2,Gb))
theorem j2o {O r}(h:f238 O=En r):ae pr (X pr) 238 [sl 2 bD O]=En (sl 2 bD r.1,r.2):=by
 unfold f238 at h;refine yc D8 ?_
 repeat' first|(replace h:=qb h;obtain⟨d,g,h⟩:=h)|(replace h:=qc h;rcases h with⟨g,h⟩|⟨g,h⟩)
 all_goals (cases h<;>(simp only[go_sem,seval,D8,kr, *];exact⟨_,rfl⟩))
def f239 (O:ak jh):Option ((ak jh)×Bool):=
 cond O.isNone
  (En (Ha,Ga))
  (qa (bB (En []) (O.getD [])) fun v2=>
  En (v2,Gb))
theorem jw0 {O r}(h:f239 O=En r):ae pr (X pr) 239 [sl 3 jb O]=En (sl 3 jb r.1,r.2):=by
 unfold f239 at h;refine yc D9 ?_
 repeat' first|(replace h:=qb h;obtain⟨d,g,h⟩:=h)|(replace h:=qc h;rcases h with⟨g,h⟩|⟨g,h⟩)
 all_goals (cases h<;>(simp only[go_sem,seval,D9,kr, *];exact⟨_,rfl⟩))
def f244 (O:ak jh):Option ((ak jh)×Bool):=
 cond O.isNone
  (En (Ha,Ga))
  (qa (bB (En []) (O.getD [])) fun v2=>
  En (v2,Gb))
theorem zlc {O r}(h:f244 O=En r):ae pr (X pr) 244 [sl 3 jb O]=En (sl 3 jb r.1,r.2):=by
 unfold f244 at h;refine yc Ea ?_
 repeat' first|(replace h:=qb h;obtain⟨d,g,h⟩:=h)|(replace h:=qc h;rcases h with⟨g,h⟩|⟨g,h⟩)
 all_goals (cases h<;>(simp only[go_sem,seval,Ea,kr, *];exact⟨_,rfl⟩))
def f264 (O:ak bG):Option ((ak bG)×Bool):=
 cond O.isNone
  (En (Ha,Ga))
  (qa (bB (En []) (O.getD [])) fun v2=>
  En (v2,Gb))
theorem ze9 {O r}(h:f264 O=En r):ae pr (X pr) 264 [sl 2 bD O]=En (sl 2 bD r.1,r.2):=by
 unfold f264 at h;refine yc Eb ?_
 repeat' first|(replace h:=qb h;obtain⟨d,g,h⟩:=h)|(replace h:=qc h;rcases h with⟨g,h⟩|⟨g,h⟩)
 all_goals (cases h<;>(simp only[go_sem,seval,Eb,kr, *];exact⟨_,rfl⟩))
def f169 (O:ak jk)(J:jk):Option (ak jk):=
 qa (f226 O) fun v1=>
 cond v1.2
  (qa (bB v1.1 [J]) fun v4=>
  En v4)
  (cond v1.1.isNone
   (qa (bB v1.1 [J]) fun v7=>
   En v7)
   (Ha))
theorem zj7 {O J r}(h:f169 O J=En r):ae pr (X pr) 169 [sl 5 jf O,aL J]=En (sl 5 jf r,Gb):=by
 unfold f169 at h;refine yc Ec ?_
 repeat' first|(replace h:=qb h;obtain⟨d,g,h⟩:=h;with_reducible first|replace g:=zj5 g|replace g:=WL g|skip)|(replace h:=qc h;rcases h with⟨g,h⟩|⟨g,h⟩)
 all_goals (cases h<;>(simp only[go_sem,seval,Ec, *];exact⟨_,rfl⟩))
def f170 (O:ak bw)(J:bw):Option (ak bw):=
 qa (f227 O) fun v1=>
 cond v1.2
  (qa (bB v1.1 [J]) fun v4=>
  En v4)
  (cond v1.1.isNone
   (qa (bB v1.1 [J]) fun v7=>
   En v7)
   (Ha))
theorem zk7 {O J r}(h:f170 O J=En r):ae pr (X pr) 170 [sl 4 qw O,aP J]=En (sl 4 qw r,Gb):=by
 unfold f170 at h;refine yc Ed ?_
 repeat' first|(replace h:=qb h;obtain⟨d,g,h⟩:=h;with_reducible first|replace g:=zgq g|replace g:=q7g g|skip)|(replace h:=qc h;rcases h with⟨g,h⟩|⟨g,h⟩)
 all_goals (cases h<;>(simp only[go_sem,seval,Ed, *];exact⟨_,rfl⟩))
def f186 (O:ak bz)(J:bz):Option (ak bz):=
 qa (f240 O) fun v1=>
 cond v1.2
  (qa (bB v1.1 [J]) fun v4=>
  En v4)
  (cond v1.1.isNone
   (qa (bB v1.1 [J]) fun v7=>
   En v7)
   (Ha))
theorem zfy {O J r}(h:f186 O J=En r):ae pr (X pr) 186 [sl 8 bI O,aU J]=En (sl 8 bI r,Gb):=by
 unfold f186 at h;refine yc Ee ?_
 repeat' first|(replace h:=qb h;obtain⟨d,g,h⟩:=h;with_reducible first|replace g:=zga g|replace g:=Pb g|skip)|(replace h:=qc h;rcases h with⟨g,h⟩|⟨g,h⟩)
 all_goals (cases h<;>(simp only[go_sem,seval,Ee, *];exact⟨_,rfl⟩))
def f184 (O:ak cn)(J:cn):Option (ak cn):=
 qa (f237 O) fun v1=>
 cond v1.2
  (qa (bB v1.1 [J]) fun v4=>
  En v4)
  (cond v1.1.isNone
   (qa (bB v1.1 [J]) fun v7=>
   En v7)
   (Ha))
theorem zg7 {O J r}(h:f184 O J=En r):ae pr (X pr) 184 [sl 2 yv O,aD J]=En (sl 2 yv r,Gb):=by
 unfold f184 at h;refine yc Ef ?_
 repeat' first|(replace h:=qb h;obtain⟨d,g,h⟩:=h;with_reducible first|replace g:=zej g|replace g:=jcp g|skip)|(replace h:=qc h;rcases h with⟨g,h⟩|⟨g,h⟩)
 all_goals (cases h<;>(simp only[go_sem,seval,Ef, *];exact⟨_,rfl⟩))
def f232 (O:ak bG)(J:bG):Option (ak bG):=
 qa (f238 O) fun v1=>
 cond v1.2
  (qa (bB v1.1 [J]) fun v4=>
  En v4)
  (cond v1.1.isNone
   (qa (bB v1.1 [J]) fun v7=>
   En v7)
   (Ha))
theorem zda {O J r}(h:f232 O J=En r):ae pr (X pr) 232 [sl 2 bD O,aN J]=En (sl 2 bD r,Gb):=by
 unfold f232 at h;refine yc Eg ?_
 repeat' first|(replace h:=qb h;obtain⟨d,g,h⟩:=h;with_reducible first|replace g:=j2o g|replace g:=BM g|skip)|(replace h:=qc h;rcases h with⟨g,h⟩|⟨g,h⟩)
 all_goals (cases h<;>(simp only[go_sem,seval,Eg, *];exact⟨_,rfl⟩))
def f236 (O:ak jh)(J:jh):Option (ak jh):=
 qa (f239 O) fun v1=>
 cond v1.2
  (qa (bB v1.1 [J]) fun v4=>
  En v4)
  (cond v1.1.isNone
   (qa (bB v1.1 [J]) fun v7=>
   En v7)
   (Ha))
theorem zed {O J r}(h:f236 O J=En r):ae pr (X pr) 236 [sl 3 jb O,aT J]=En (sl 3 jb r,Gb):=by
 unfold f236 at h;refine yc Eh ?_
 repeat' first|(replace h:=qb h;obtain⟨d,g,h⟩:=h;with_reducible first|replace g:=jw0 g|replace g:=Gm g|skip)|(replace h:=qc h;rcases h with⟨g,h⟩|⟨g,h⟩)
 all_goals (cases h<;>(simp only[go_sem,seval,Eh, *];exact⟨_,rfl⟩))
def f243 (O:ak bG)(J:bG):Option (ak bG):=
 qa (f264 O) fun v1=>
 cond v1.2
  (qa (bB v1.1 [J]) fun v4=>
  En v4)
  (cond v1.1.isNone
   (qa (bB v1.1 [J]) fun v7=>
   En v7)
   (Ha))
theorem zjf {O J r}(h:f243 O J=En r):ae pr (X pr) 243 [sl 2 bD O,aN J]=En (sl 2 bD r,Gb):=by
 unfold f243 at h;refine yc Ei ?_
 repeat' first|(replace h:=qb h;obtain⟨d,g,h⟩:=h;with_reducible first|replace g:=ze9 g|replace g:=BM g|skip)|(replace h:=qc h;rcases h with⟨g,h⟩|⟨g,h⟩)
 all_goals (cases h<;>(simp only[go_sem,seval,Ei, *];exact⟨_,rfl⟩))
def f197 (O:ak jh)(J:jh):Option (ak jh):=
 qa (f244 O) fun v1=>
 cond v1.2
  (qa (bB v1.1 [J]) fun v4=>
  En v4)
  (cond v1.1.isNone
   (qa (bB v1.1 [J]) fun v7=>
   En v7)
   (Ha))
theorem zey {O J r}(h:f197 O J=En r):ae pr (X pr) 197 [sl 3 jb O,aT J]=En (sl 3 jb r,Gb):=by
 unfold f197 at h;refine yc Ej ?_
 repeat' first|(replace h:=qb h;obtain⟨d,g,h⟩:=h;with_reducible first|replace g:=zlc g|replace g:=Gm g|skip)|(replace h:=qc h;rcases h with⟨g,h⟩|⟨g,h⟩)
 all_goals (cases h<;>(simp only[go_sem,seval,Ej, *];exact⟨_,rfl⟩))
def f185 (O:cn):Option cn:=
 qa (f238 O.bh) fun v1=>
 qa (f239 O.aS) fun v3=>
 En (⟨v1.1,v3.1⟩)
theorem zfz {O r}(h:f185 O=En r):ae pr (X pr) 185 [aD O]=En (aD r,Ga):=by
 unfold f185 at h;refine jz Ek ?_
 repeat' first|(replace h:=qb h;obtain⟨d,g,h⟩:=h;with_reducible first|replace g:=j2o g|replace g:=jw0 g|skip)|(replace h:=qc h;rcases h with⟨g,h⟩|⟨g,h⟩)
 all_goals (cases h<;>(simp only[go_sem,seval,Ek, *];exact⟨_,rfl⟩))
end Go.Z
namespace Go.Z
open Go Go.Abs Go.W
def f75 (O:aj):Option n9:=
 cond (decide (O=([108,111,116]:aj)))
  (En (⟨2,2,Gb⟩))
  (cond (decide (O=([112,114,111,100,117,99,116]:aj)))
   (En (⟨1,1,Gb⟩))
   (cond (decide (O=([105,115,115,117,101]:aj)))
    (En (⟨1,1,Gb⟩))
    (cond (decide (O=([117,112,100,97,116,101]:aj)))
     (En (⟨1,1,Gb⟩))
     (cond (decide (O=([104,111,108,100]:aj)))
      (En (⟨1,1,Gb⟩))
      (cond (decide (O=([102,114,101,101]:aj)))
       (En (⟨1,1,Gb⟩))
       (cond (decide (O=([115,104,105,112]:aj)))
        (En (⟨1,1,Gb⟩))
        (cond (decide (O=([99,111,109,112,108,97,105,110]:aj)))
         (En (⟨1,1,Gb⟩))
         (cond (decide (O=([110,101,101,100]:aj)))
          (En (⟨2,2,Gb⟩))
          (cond (decide (O=([117,115,101]:aj)))
           (En (⟨2,2,Gb⟩))
           (cond (decide (O=([109,101,97,115,117,114,101]:aj)))
            (En (⟨2,2,Gb⟩))
            (cond (decide (O=([116,101,115,116]:aj)))
             (En (⟨2,3,Gb⟩))
             (cond (decide (O=([98,117,105,108,100]:aj)))
              (En (⟨2,1,Gb⟩))
              (cond (decide (O=([112,97,105,114]:aj)))
               (En (⟨2,1,Gb⟩))
               (cond (decide (O=([117,110,100,111]:aj)))
                (En (⟨0,0,Gb⟩))
                (En (⟨0,0,Ga⟩))))))))))))))))
theorem ZU {O r}(h:f75 O=En r):ae pr (X pr) 75 [.str O]=En (.agg [Iv r.names,Iv r.values,.bool r.known],Ga):=by
 unfold f75 at h;refine jz c75 ?_
 repeat' first|(replace h:=qc h;rcases h with⟨g,h⟩|⟨g,h⟩)
 all_goals (cases h<;>(simp only[go_sem,seval,c75, *];exact⟨_,rfl⟩))
def B9 (O:aC)(v4:n9)(V:Int):Option (Int⊕(Unit⊕Int)):=
 cond (decide (V<v4.names))
  (qa (ql (O.names.getD []) V) fun v22=>
  qa (f78 v22) fun v24=>
  cond v24
   (En (.inl (qd .i64 (V+1))))
   (En (.inr (.inl ()))))
  (En (.inr (.inr V)))
def SX (O:aC)(v4:n9)(V:Int):bg:=⟨[(1,.aq (aE O),Ga),(3,.aq (.agg [Iv v4.names,Iv v4.values,.bool Gb]),Ga),(4,Iv V,Ga)],[]⟩
def SY (O:aC)(v4:n9):Unit⊕Int->q9×bg
 | .inl d=>(.ret,⟨[(2,Iv 8,Ga)],[]⟩)| .inr d=>(.exit 0,⟨[(1,.aq (aE O),Ga),(3,.aq (.agg [Iv v4.names,Iv v4.values,.bool Gb]),Ga),(4,Iv d,Ga),(32,.bool Ga,Ga)],[]⟩)
theorem j7r (O:aC)(v4:n9)(V:Int)(r)(h:B9 O v4 V=En r):jo pr SZ (SX O v4) (SY O v4) V r:=by
 unfold B9 at h
 repeat' first|(replace h:=qb h;obtain⟨d,g,h⟩:=h;with_reducible first|replace g:=W78 g|skip)|(replace h:=qc h;rcases h with⟨g,h⟩|⟨g,h⟩)
 all_goals (cases h<;>((first|refine qn ?_|refine jr ?_);simp only[go_sem,seval,SZ,SX,ji,SY, *]<;>rfl))
theorem j50 (O:aC)(v4:n9){V d}(h:bd (B9 O v4) V=En d):X pr (.loop SZ) (SX O v4 V)=En (SY O v4 d):=zz (j7r O v4) h
def Cb (O:aC)(v4:n9)(s1:Int):Option (Int⊕(Unit⊕Int)):=
 cond (decide (s1<v4.values))
  (qa (ql (O.values.getD []) s1) fun rm=>
  qa (f151 rm 0 999999999) fun v46=>
  cond v46
   (En (.inr (.inl ())))
   (En (.inl (qd .i64 (s1+1)))))
  (En (.inr (.inr s1)))
def S0 (O:aC)(v4:n9)(s1:Int):bg:=⟨[(1,.aq (aE O),Ga),(3,.aq (.agg [Iv v4.names,Iv v4.values,.bool Gb]),Ga),(5,Iv s1,Ga)],[]⟩
def S1 (O:aC)(v4:n9):Unit⊕Int->q9×bg
 | .inl d=>(.ret,⟨[(2,Iv 3,Ga)],[]⟩)| .inr d=>(.exit 2,⟨[(1,.aq (aE O),Ga),(3,.aq (.agg [Iv v4.names,Iv v4.values,.bool Gb]),Ga),(5,Iv d,Ga),(45,.bool Ga,Ga)],[]⟩)
theorem j6o (O:aC)(v4:n9)(s1:Int)(r)(h:Cb O v4 s1=En r):jo pr S2 (S0 O v4) (S1 O v4) s1 r:=by
 unfold Cb at h
 repeat' first|(replace h:=qb h;obtain⟨d,g,h⟩:=h;with_reducible first|replace g:=jln g|skip)|(replace h:=qc h;rcases h with⟨g,h⟩|⟨g,h⟩)
 all_goals (cases h<;>((first|refine qn ?_|refine jr ?_);simp only[go_sem,seval,S2,S0,ji,S1, *]<;>rfl))
theorem j8g (O:aC)(v4:n9){s1 d}(h:bd (Cb O v4) s1=En d):X pr (.loop S2) (S0 O v4 s1)=En (S1 O v4 d):=zz (j6o O v4) h
def f73 (O:aC):Option Int:=
 qa (f151 O.number 1 1000) fun v1=>
 cond v1
  (En 3)
  (qa (f75 O.kind) fun v4=>
  cond v4.known
   (cond (decide (((O.names.getD []).length:Int)=v4.names))
    (cond (decide (((O.values.getD []).length:Int)=v4.values))
     (qa (bd (B9 O v4) 0) fun d27=>match d27 with
      | .inl d29=>
       En 8
      | .inr d30=>
       qa (bd (Cb O v4) 0) fun d49=>match d49 with
        | .inl d51=>
         En 3
        | .inr d52=>
         cond (decide (O.text=[]))
          (En 0)
          (En 1))
     (En 2))
    (En 2))
   (En 13))
theorem ZV {O r}(h:f73 O=En r):ae pr (X pr) 73 [aE O]=En (Iv r,Ga):=by
 unfold f73 at h;refine jz c73 ?_
 repeat' first|(replace h:=qb h;obtain⟨d,g,h⟩:=h;with_reducible first|replace g:=jln g|replace g:=ZU g|(replace g:=j50 O _ g;rcases d with d|d<;>dsimp only[SX,SY,zc]at g h)|(replace g:=j8g O _ g;rcases d with d|d<;>dsimp only[S0,S1,zc]at g h)|skip)|(replace h:=qc h;rcases h with⟨g,h⟩|⟨g,h⟩)
 all_goals (cases h<;>(simp only[go_sem,seval,c73, *];exact⟨_,rfl⟩))
end Go.Z
namespace Go.Z
open Go Go.Abs Go.W
section
variable {p:j8}{xc:XC}{h0:Nat}{al:ak Nat}{e:Env}{h:qh}{α:Type}
structure rK (f:α->AVal)(sz:Nat):Prop where
 len:∀x,(f x).flat.length=sz
 sc:∀x,(f x).flat.all qk=Gb
 ag:∀x,f x=.agg (f x).flat
 ref:∀x,(f x).flat.any NI=Gb
 big:1<sz
variable {f:α->AVal}{sz:Nat}
theorem jnc (E:rK f sz)(l:List α):(zi f l).all qk=Gb:=by
 induction l with
 |nil=>rfl|cons x l ih=>rw[BI,List.all_append,E.sc,ih];rfl
theorem jdw (E:rK f sz):∀(l:List α),nR sz l.length (zi f l)=l.map f
 | []=>rfl
 |x::l=>by
  have hb:Ip sz 1=Ga:=by
   have:=E.big
   cases h:Ip sz 1 with
   |false=>rfl|true=>have:=Nat.eq_of_beq_eq_true h;omega
  have hl:=E.len x;show(bif Ip sz 1 then(zi f (x::l)).headD .undef else .agg ((zi f (x::l)).take sz))::nR sz l.length ((zi f (x::l)).drop sz)=_;rw[hb,cond_false,BI,List.take_append_of_le_length (by omega),List.drop_append_of_le_length (by omega),Ir (by omega),Io (by omega),Iu,jdw E l,<-E.ag];rfl
theorem wM (E:rK f sz){l}(hl:0<l.length){cs}(hc:cs.map (·.1)=zi f l):PE (En cs) 0 l.length=En (.list Ga sz (l.map f)):=by
 have dX:cs.length=l.length*sz:=by rw[<-Ik (f:=(·.1)),hc,O8 E.len]
 have hdiv:cs.length / l.length=sz:=by rw[dX];exact Nat.mul_div_cancel_left _ hl
 have hany:cs.any (fun c=>NI c.1)=Gb:=by
  cases l with
  |nil=>cases hl
  |cons x l=>
   have:(cs.map (·.1)).any NI=Gb:=by rw[hc,BI,List.any_append,E.ref];rfl
   rw[List.any_map]at this;exact this
 have Q:FD 0 l.length cs=Gb:=by
  have hb:Nat.blt 1 sz=Gb:=Iy.mpr E.big;rw[FD,hdiv,hb,hany,dX,Ij,Ij];rfl
 unfold PE;simp only[Q,cond_true,hdiv];rw[hc,jdw E]
theorem El {r n by_ zero}(hz:zero.length=sz)(G:zero.all qk=Gb)(Y:0<sz)(hn:n<=1073741824)(hb:by_<=4096){h'}(hh:aQ h0 h r (.cells (cellsOf (Hc n zero).flatten))=En h'):
  wi h0 r sz by_ zero h (En (Iv (n:Int))) (En (Iv (n:Int)))=En ⟨.ms (h0+r) 0 n,Ga,Ha,h'⟩:=by
 show(bif Ip n n&&Nat.ble n 1073741824&&Nat.ble by_ 4096&&Ip zero.length sz&&Nat.blt 0 sz&&zero.all qk then _ else _)=_;rw[Ij,If hn,If hb,hz,Ij,Iy.mpr Y,G];simp only[Ii,cond_true,hh];rfl
theorem Em (E:rK f sz){b l cs}(hb:h[b]?=En (.cells cs))(hc:cs.length=(l.getD []).length*sz)(dG:ze h0 al b=Gb):
  xK h0 al sz h (En (.ms b 0 (l.getD []).length)) (En (sl sz f l))=En ⟨Lv l,Ga,Ha,h.set b (.cells (bU f (l.getD [])))⟩:=by
 have mK:qv h b=En cs:=by rw[jb7,hb];rfl
 have aW:=(Hb.1 hb).1
 have cX:AR sz (l.getD []).length (sl sz f l)=En ((l.getD []).length,zi f (l.getD [])):=by
  cases l with
  |none=>simp[sl,AR,zi]
  |some l=>
   show(bif Ip sz sz||(l.map f).isEmpty then En (min (l.map f).length l.length,((l.map f).take l.length).flatMap AVal.flat)else Ha)=_;rw[Ij,Ik,Nat.min_self,Ir (by rw[Ik];exact Nat.le_refl _)];rfl
 have N6:(zi f (l.getD [])).length=(l.getD []).length*sz:=O8 E.len _
 have cw:jx cs 0 (zi f (l.getD []))=En (bU f (l.getD [])):=by
  unfold jx;rw[jnc E,N6,hc,If (by omega)];simp only[Ii,cond_true,I0,Iu];rw[Io (by rw[hc];omega),Iz];rfl
 have bO:jy h b (.cells (bU f (l.getD [])))=En (h.set b (.cells (bU f (l.getD [])))):=by
  simp only[jy,Iy.mpr aW,cond_true]
 show(bif ze h0 al b then(match qv h b with
   |some cs=>(match AR sz (l.getD []).length (sl sz f l)with
    |some (n,vs)=>(match jx cs 0 vs with
     |some eK=>bif Ip vs.length (n*sz)then(match jy h b (.cells eK)with
      |some h'=>val h' (Iv n)
      |none=>Ha)else Ha
     |none=>Ha)
    |none=>Ha)
   |none=>Ha)else Ha)=_
 rw[dG,mK,cX];simp only[cond_true,cw,N6,Ij,bO];rfl
theorem wN {b n i k}(hi:i<n):mM sz h (En (.ms b 0 n)) (En (.int k (i:Int)))=En ⟨.ptr b (i*sz),Ga,Ha,h⟩:=by
 have:idx n (.int k (i:Int))=En i:=by rw[zJ];exact V4 hi
 simp only[mM,this,Nat.zero_add];rfl
end
end Go.Z
namespace Go.Z
open Go Go.Abs Go.W
theorem gT:rK jf 5:=⟨fun _=>rfl,fun _=>rfl,fun _=>rfl,fun _=>rfl,by omega⟩
theorem rL:rK bD 2:=⟨fun _=>rfl,fun _=>rfl,fun _=>rfl,fun _=>rfl,by omega⟩
theorem uv:rK jb 3:=⟨fun _=>rfl,fun _=>rfl,fun _=>rfl,fun _=>rfl,by omega⟩
theorem cM:rK qw 4:=⟨fun _=>rfl,fun _=>by simp only[go_sem,seval,je0]<;>simp only[Ix,go_sem],fun _=>rfl,fun _=>rfl,by omega⟩
theorem ez:rK bI 8:=⟨fun _=>rfl,fun _=>by simp only[go_sem,seval,jn4]<;>simp only[Ix,go_sem],fun _=>rfl,fun _=>rfl,by omega⟩
theorem zgd {j caps l i cs}(hlen:(l.getD []).length<=1073741824)(hi:i<(l.getD []).length)(dX:ai pr (X pr) j (.ptr 0 (i*4)::caps) [.cells (bU qw (l.getD []))]=En (.aI [],Ga,[.cells cs])):ai pr (X pr) 182 [sl 4 qw l,Iv (i:Int),.fn (.func j) [] caps] []=En (.ms 0 0 ((l.getD []).length),Ga,[.cells cs]):=by
 rw[qg (show pr.br 182=En Eo from rfl) (by simp)]
 have rM:wi 0 0 4 88 [(.str []),(Nl),(Nl),(Nl)] [.hole] (En (Lv l)) (En (Lv l))=En ⟨.ms 0 0 (l.getD []).length,Ga,Ha,[.cells (cellsOf (Hc (l.getD []).length [(.str []),(Nl),(Nl),(Nl)]).flatten)]⟩:=by apply El<;>first|exact hlen|rfl|decide
 have rN:xK 1 Ha 4 [.cells (cellsOf (Hc (l.getD []).length [(.str []),(Nl),(Nl),(Nl)]).flatten)] (En (.ms 0 0 (l.getD []).length)) (En (sl 4 qw l))=En ⟨Lv l,Ga,Ha,[.cells (bU qw (l.getD []))]⟩:=Em cM rfl (by simp[cellsOf]) rfl;simp only[go_sem,seval,Eo,rM,rN,wN hi,dX]<;>rfl
theorem j9l{y:bw} {j:Nat} {caps:List AVal} {l:ak bw} {i:Nat} {cs:List (AVal×Bool)} (hlen:(l.getD []).length<=1073741824) (hi:i<(l.getD []).length) (dX:ai pr (X pr) j (.ptr 0 (i*4)::caps) [.cells (bU qw (l.getD []))]=En (.aI [],Ga,[.cells cs])) (hcs:cs.map (·.1)=zi qw ((l.getD []).set i y)):ae pr (X pr) 182 [sl 4 qw l,Iv (i:Int),.fn (.func j) [] caps]=En (sl 4 qw (En ((l.getD []).set i y)),Ga):=by
 have hl:((l.getD []).set i y).length=(l.getD []).length:=H2
 have hz:aX [.cells cs] (.ms 0 0 ((l.getD []).length))=En (sl 4 qw (En ((l.getD []).set i y))):=by
  rw[GR,<-hl];exact wM cM (by rw[hl];omega) hcs
 exact je rfl (zgd hlen hi dX) hz (by first|rfl|simp only[go_sem,seval])
theorem zka {j caps l i cs}(hlen:(l.getD []).length<=1073741824)(hi:i<(l.getD []).length)(dX:ai pr (X pr) j (.ptr 0 (i*5)::caps) [.cells (bU jf (l.getD []))]=En (.aI [],Ga,[.cells cs])):ai pr (X pr) 188 [sl 5 jf l,Iv (i:Int),.fn (.func j) [] caps] []=En (.ms 0 0 ((l.getD []).length),Ga,[.cells cs]):=by
 rw[qg (show pr.br 188=En Ep from rfl) (by simp)]
 have rM:wi 0 0 5 56 [(.str []),(.str []),(Iv 0),(Iv 0),(.bool Ga)] [.hole] (En (Lv l)) (En (Lv l))=En ⟨.ms 0 0 (l.getD []).length,Ga,Ha,[.cells (cellsOf (Hc (l.getD []).length [(.str []),(.str []),(Iv 0),(Iv 0),(.bool Ga)]).flatten)]⟩:=by apply El<;>first|exact hlen|rfl|decide
 have rN:xK 1 Ha 5 [.cells (cellsOf (Hc (l.getD []).length [(.str []),(.str []),(Iv 0),(Iv 0),(.bool Ga)]).flatten)] (En (.ms 0 0 (l.getD []).length)) (En (sl 5 jf l))=En ⟨Lv l,Ga,Ha,[.cells (bU jf (l.getD []))]⟩:=Em gT rfl (by simp[cellsOf]) rfl;simp only[go_sem,seval,Ep,rM,rN,wN hi,dX]<;>rfl
theorem j98{y:jk} {j:Nat} {caps:List AVal} {l:ak jk} {i:Nat} {cs:List (AVal×Bool)} (hlen:(l.getD []).length<=1073741824) (hi:i<(l.getD []).length) (dX:ai pr (X pr) j (.ptr 0 (i*5)::caps) [.cells (bU jf (l.getD []))]=En (.aI [],Ga,[.cells cs])) (hcs:cs.map (·.1)=zi jf ((l.getD []).set i y)):ae pr (X pr) 188 [sl 5 jf l,Iv (i:Int),.fn (.func j) [] caps]=En (sl 5 jf (En ((l.getD []).set i y)),Ga):=by
 have hl:((l.getD []).set i y).length=(l.getD []).length:=H2
 have hz:aX [.cells cs] (.ms 0 0 ((l.getD []).length))=En (sl 5 jf (En ((l.getD []).set i y))):=by
  rw[GR,<-hl];exact wM gT (by rw[hl];omega) hcs
 exact je rfl (zka hlen hi dX) hz (by first|rfl|simp only[go_sem,seval])
theorem zk4 {j caps l i cs}(hlen:(l.getD []).length<=1073741824)(hi:i<(l.getD []).length)(dX:ai pr (X pr) j (.ptr 0 (i*8)::caps) [.cells (bU bI (l.getD []))]=En (.aI [],Ga,[.cells cs])):ai pr (X pr) 192 [sl 8 bI l,Iv (i:Int),.fn (.func j) [] caps] []=En (.ms 0 0 ((l.getD []).length),Ga,[.cells cs]):=by
 rw[qg (show pr.br 192=En uw from rfl) (by simp)]
 have rM:wi 0 0 8 120 [(.str []),(.str []),(Iv 0),(Nl),(Nl),(.str []),(.bool Ga),(Iv 0)] [.hole] (En (Lv l)) (En (Lv l))=En ⟨.ms 0 0 (l.getD []).length,Ga,Ha,[.cells (cellsOf (Hc (l.getD []).length [(.str []),(.str []),(Iv 0),(Nl),(Nl),(.str []),(.bool Ga),(Iv 0)]).flatten)]⟩:=by apply El<;>first|exact hlen|rfl|decide
 have rN:xK 1 Ha 8 [.cells (cellsOf (Hc (l.getD []).length [(.str []),(.str []),(Iv 0),(Nl),(Nl),(.str []),(.bool Ga),(Iv 0)]).flatten)] (En (.ms 0 0 (l.getD []).length)) (En (sl 8 bI l))=En ⟨Lv l,Ga,Ha,[.cells (bU bI (l.getD []))]⟩:=Em ez rfl (by simp[cellsOf]) rfl;simp only[go_sem,seval,uw,rM,rN,wN hi,dX]<;>rfl
theorem j8v{y:bz} {j:Nat} {caps:List AVal} {l:ak bz} {i:Nat} {cs:List (AVal×Bool)} (hlen:(l.getD []).length<=1073741824) (hi:i<(l.getD []).length) (dX:ai pr (X pr) j (.ptr 0 (i*8)::caps) [.cells (bU bI (l.getD []))]=En (.aI [],Ga,[.cells cs])) (hcs:cs.map (·.1)=zi bI ((l.getD []).set i y)):ae pr (X pr) 192 [sl 8 bI l,Iv (i:Int),.fn (.func j) [] caps]=En (sl 8 bI (En ((l.getD []).set i y)),Ga):=by
 have hl:((l.getD []).set i y).length=(l.getD []).length:=H2
 have hz:aX [.cells cs] (.ms 0 0 ((l.getD []).length))=En (sl 8 bI (En ((l.getD []).set i y))):=by
  rw[GR,<-hl];exact wM ez (by rw[hl];omega) hcs
 exact je rfl (zk4 hlen hi dX) hz (by first|rfl|simp only[go_sem,seval])
theorem jrg {b0 b1 b2 b3 b4 j caps l i cs}(hlen:(l.getD []).length<=1073741824)(hi:i<(l.getD []).length)(dX:ai pr (X pr) j (.ptr 5 (i*8)::caps) [b0,b1,b2,b3,b4,.cells (bU bI (l.getD []))]=En (.aI [],Ga,[b0,b1,b2,b3,b4,.cells cs])):ai pr (X pr) 192 [sl 8 bI l,Iv (i:Int),.fn (.func j) [] caps] [b0,b1,b2,b3,b4]=En (.ms 5 0 ((l.getD []).length),Ga,[b0,b1,b2,b3,b4,.cells cs]):=by
 rw[qg (show pr.br 192=En uw from rfl) (by simp)]
 have rM:wi 5 0 8 120 [(.str []),(.str []),(Iv 0),(Nl),(Nl),(.str []),(.bool Ga),(Iv 0)] [b0,b1,b2,b3,b4,.hole] (En (Lv l)) (En (Lv l))=En ⟨.ms 5 0 (l.getD []).length,Ga,Ha,[b0,b1,b2,b3,b4,.cells (cellsOf (Hc (l.getD []).length [(.str []),(.str []),(Iv 0),(Nl),(Nl),(.str []),(.bool Ga),(Iv 0)]).flatten)]⟩:=by apply El<;>first|exact hlen|rfl|decide
 have rN:xK 6 Ha 8 [b0,b1,b2,b3,b4,.cells (cellsOf (Hc (l.getD []).length [(.str []),(.str []),(Iv 0),(Nl),(Nl),(.str []),(.bool Ga),(Iv 0)]).flatten)] (En (.ms 5 0 (l.getD []).length)) (En (sl 8 bI l))=En ⟨Lv l,Ga,Ha,[b0,b1,b2,b3,b4,.cells (bU bI (l.getD []))]⟩:=Em ez rfl (by simp[cellsOf]) rfl;simp only[go_sem,seval,uw,rM,rN,wN hi,dX]<;>rfl
theorem zdo {j caps l i cs}(hlen:(l.getD []).length<=1073741824)(hi:i<(l.getD []).length)(dX:ai pr (X pr) j (.ptr 0 (i*2)::caps) [.cells (bU bD (l.getD []))]=En (.aI [],Ga,[.cells cs])):ai pr (X pr) 230 [sl 2 bD l,Iv (i:Int),.fn (.func j) [] caps] []=En (.ms 0 0 ((l.getD []).length),Ga,[.cells cs]):=by
 rw[qg (show pr.br 230=En Er from rfl) (by simp)]
 have rM:wi 0 0 2 24 [(.str []),(Iv 0)] [.hole] (En (Lv l)) (En (Lv l))=En ⟨.ms 0 0 (l.getD []).length,Ga,Ha,[.cells (cellsOf (Hc (l.getD []).length [(.str []),(Iv 0)]).flatten)]⟩:=by apply El<;>first|exact hlen|rfl|decide
 have rN:xK 1 Ha 2 [.cells (cellsOf (Hc (l.getD []).length [(.str []),(Iv 0)]).flatten)] (En (.ms 0 0 (l.getD []).length)) (En (sl 2 bD l))=En ⟨Lv l,Ga,Ha,[.cells (bU bD (l.getD []))]⟩:=Em rL rfl (by simp[cellsOf]) rfl;simp only[go_sem,seval,Er,rM,rN,wN hi,dX]<;>rfl
theorem j7p{y:bG} {j:Nat} {caps:List AVal} {l:ak bG} {i:Nat} {cs:List (AVal×Bool)} (hlen:(l.getD []).length<=1073741824) (hi:i<(l.getD []).length) (dX:ai pr (X pr) j (.ptr 0 (i*2)::caps) [.cells (bU bD (l.getD []))]=En (.aI [],Ga,[.cells cs])) (hcs:cs.map (·.1)=zi bD ((l.getD []).set i y)):ae pr (X pr) 230 [sl 2 bD l,Iv (i:Int),.fn (.func j) [] caps]=En (sl 2 bD (En ((l.getD []).set i y)),Ga):=by
 have hl:((l.getD []).set i y).length=(l.getD []).length:=H2
 have hz:aX [.cells cs] (.ms 0 0 ((l.getD []).length))=En (sl 2 bD (En ((l.getD []).set i y))):=by
  rw[GR,<-hl];exact wM rL (by rw[hl];omega) hcs
 exact je rfl (zdo hlen hi dX) hz (by first|rfl|simp only[go_sem,seval])
theorem zfs {j caps l i cs}(hlen:(l.getD []).length<=1073741824)(hi:i<(l.getD []).length)(dX:ai pr (X pr) j (.ptr 0 (i*3)::caps) [.cells (bU jb (l.getD []))]=En (.aI [],Ga,[.cells cs])):ai pr (X pr) 234 [sl 3 jb l,Iv (i:Int),.fn (.func j) [] caps] []=En (.ms 0 0 ((l.getD []).length),Ga,[.cells cs]):=by
 rw[qg (show pr.br 234=En Es from rfl) (by simp)]
 have rM:wi 0 0 3 32 [(.str []),(Iv 0),(Iv 0)] [.hole] (En (Lv l)) (En (Lv l))=En ⟨.ms 0 0 (l.getD []).length,Ga,Ha,[.cells (cellsOf (Hc (l.getD []).length [(.str []),(Iv 0),(Iv 0)]).flatten)]⟩:=by apply El<;>first|exact hlen|rfl|decide
 have rN:xK 1 Ha 3 [.cells (cellsOf (Hc (l.getD []).length [(.str []),(Iv 0),(Iv 0)]).flatten)] (En (.ms 0 0 (l.getD []).length)) (En (sl 3 jb l))=En ⟨Lv l,Ga,Ha,[.cells (bU jb (l.getD []))]⟩:=Em uv rfl (by simp[cellsOf]) rfl;simp only[go_sem,seval,Es,rM,rN,wN hi,dX]<;>rfl
theorem j9n{y:jh} {j:Nat} {caps:List AVal} {l:ak jh} {i:Nat} {cs:List (AVal×Bool)} (hlen:(l.getD []).length<=1073741824) (hi:i<(l.getD []).length) (dX:ai pr (X pr) j (.ptr 0 (i*3)::caps) [.cells (bU jb (l.getD []))]=En (.aI [],Ga,[.cells cs])) (hcs:cs.map (·.1)=zi jb ((l.getD []).set i y)):ae pr (X pr) 234 [sl 3 jb l,Iv (i:Int),.fn (.func j) [] caps]=En (sl 3 jb (En ((l.getD []).set i y)),Ga):=by
 have hl:((l.getD []).set i y).length=(l.getD []).length:=H2
 have hz:aX [.cells cs] (.ms 0 0 ((l.getD []).length))=En (sl 3 jb (En ((l.getD []).set i y))):=by
  rw[GR,<-hl];exact wM uv (by rw[hl];omega) hcs
 exact je rfl (zfs hlen hi dX) hz (by first|rfl|simp only[go_sem,seval])
theorem zdw {j caps l i cs}(hlen:(l.getD []).length<=1073741824)(hi:i<(l.getD []).length)(dX:ai pr (X pr) j (.ptr 0 (i*2)::caps) [.cells (bU bD (l.getD []))]=En (.aI [],Ga,[.cells cs])):ai pr (X pr) 241 [sl 2 bD l,Iv (i:Int),.fn (.func j) [] caps] []=En (.ms 0 0 ((l.getD []).length),Ga,[.cells cs]):=by
 rw[qg (show pr.br 241=En Et from rfl) (by simp)]
 have rM:wi 0 0 2 24 [(.str []),(Iv 0)] [.hole] (En (Lv l)) (En (Lv l))=En ⟨.ms 0 0 (l.getD []).length,Ga,Ha,[.cells (cellsOf (Hc (l.getD []).length [(.str []),(Iv 0)]).flatten)]⟩:=by apply El<;>first|exact hlen|rfl|decide
 have rN:xK 1 Ha 2 [.cells (cellsOf (Hc (l.getD []).length [(.str []),(Iv 0)]).flatten)] (En (.ms 0 0 (l.getD []).length)) (En (sl 2 bD l))=En ⟨Lv l,Ga,Ha,[.cells (bU bD (l.getD []))]⟩:=Em rL rfl (by simp[cellsOf]) rfl;simp only[go_sem,seval,Et,rM,rN,wN hi,dX]<;>rfl
theorem j5f{y:bG} {j:Nat} {caps:List AVal} {l:ak bG} {i:Nat} {cs:List (AVal×Bool)} (hlen:(l.getD []).length<=1073741824) (hi:i<(l.getD []).length) (dX:ai pr (X pr) j (.ptr 0 (i*2)::caps) [.cells (bU bD (l.getD []))]=En (.aI [],Ga,[.cells cs])) (hcs:cs.map (·.1)=zi bD ((l.getD []).set i y)):ae pr (X pr) 241 [sl 2 bD l,Iv (i:Int),.fn (.func j) [] caps]=En (sl 2 bD (En ((l.getD []).set i y)),Ga):=by
 have hl:((l.getD []).set i y).length=(l.getD []).length:=H2
 have hz:aX [.cells cs] (.ms 0 0 ((l.getD []).length))=En (sl 2 bD (En ((l.getD []).set i y))):=by
  rw[GR,<-hl];exact wM rL (by rw[hl];omega) hcs
 exact je rfl (zdw hlen hi dX) hz (by first|rfl|simp only[go_sem,seval])
end Go.Z
namespace Go.Z
open Go Go.Abs Go.W
def gP {α:Type}(l:Option (List α))(i:Int)(g:α->Option α):Option (Option (List α)):=
 if(l.getD []).length<=1073741824/\0<=i then(match(l.getD [])[i.toNat]? with
  |some x=>(match g x with
   |some y=>En (En ((l.getD []).set i.toNat y))
   |none=>Ha)
  |none=>Ha)else Ha
theorem AH {α:Type}{l i g r}(h:gP l i g=En r):∃(n:Nat) (x y:α),i=(n:Int)/\(l.getD []).length<=1073741824/\(l.getD [])[n]?=En x/\g x=En y/\r=En ((l.getD []).set n y):=by
 unfold gP at h;split at h
 .rename_i hc;split at h
  .rename_i x M;split at h
   .rename_i y hy;cases h;exact⟨i.toNat,x,y,(Int.toNat_of_nonneg hc.2).symm,hc.1,M,hy,rfl⟩
   .cases h
  .cases h
 .cases h
theorem jeq {l r i g j caps}(dX:∀(n:Nat) (x y:bw),(l.getD [])[n]?=En x->g x=En y->∃cs,ai pr (X pr) j (.ptr 0 (n*4)::caps) [.cells (bU qw (l.getD []))]=En (.aI [],Ga,[.cells cs])/\cs.map (·.1)=zi qw ((l.getD []).set n y))(h:gP l i g=En r):ae pr (X pr) 182 [sl 4 qw l,Iv i,.fn (.func j) [] caps]=En (sl 4 qw r,Ga):=by
 obtain⟨n,x,y,rfl,hl,M,hy,rfl⟩:=AH h;obtain⟨cs,Y,I⟩:=dX n x y M hy;exact j9l hl (Hb.1 M).1 Y I
theorem jey {l r i g j caps}(dX:∀(n:Nat) (x y:jk),(l.getD [])[n]?=En x->g x=En y->∃cs,ai pr (X pr) j (.ptr 0 (n*5)::caps) [.cells (bU jf (l.getD []))]=En (.aI [],Ga,[.cells cs])/\cs.map (·.1)=zi jf ((l.getD []).set n y))(h:gP l i g=En r):ae pr (X pr) 188 [sl 5 jf l,Iv i,.fn (.func j) [] caps]=En (sl 5 jf r,Ga):=by
 obtain⟨n,x,y,rfl,hl,M,hy,rfl⟩:=AH h;obtain⟨cs,Y,I⟩:=dX n x y M hy;exact j98 hl (Hb.1 M).1 Y I
theorem HX {l r i g j caps}(dX:∀(n:Nat) (x y:bz),(l.getD [])[n]?=En x->g x=En y->∃cs,ai pr (X pr) j (.ptr 0 (n*8)::caps) [.cells (bU bI (l.getD []))]=En (.aI [],Ga,[.cells cs])/\cs.map (·.1)=zi bI ((l.getD []).set n y))(h:gP l i g=En r):ae pr (X pr) 192 [sl 8 bI l,Iv i,.fn (.func j) [] caps]=En (sl 8 bI r,Ga):=by
 obtain⟨n,x,y,rfl,hl,M,hy,rfl⟩:=AH h;obtain⟨cs,Y,I⟩:=dX n x y M hy;exact j8v hl (Hb.1 M).1 Y I
theorem j61 {l r i g j caps}(dX:∀(n:Nat) (x y:bG),(l.getD [])[n]?=En x->g x=En y->∃cs,ai pr (X pr) j (.ptr 0 (n*2)::caps) [.cells (bU bD (l.getD []))]=En (.aI [],Ga,[.cells cs])/\cs.map (·.1)=zi bD ((l.getD []).set n y))(h:gP l i g=En r):ae pr (X pr) 230 [sl 2 bD l,Iv i,.fn (.func j) [] caps]=En (sl 2 bD r,Ga):=by
 obtain⟨n,x,y,rfl,hl,M,hy,rfl⟩:=AH h;obtain⟨cs,Y,I⟩:=dX n x y M hy;exact j7p hl (Hb.1 M).1 Y I
theorem j71 {l r i g j caps}(dX:∀(n:Nat) (x y:jh),(l.getD [])[n]?=En x->g x=En y->∃cs,ai pr (X pr) j (.ptr 0 (n*3)::caps) [.cells (bU jb (l.getD []))]=En (.aI [],Ga,[.cells cs])/\cs.map (·.1)=zi jb ((l.getD []).set n y))(h:gP l i g=En r):ae pr (X pr) 234 [sl 3 jb l,Iv i,.fn (.func j) [] caps]=En (sl 3 jb r,Ga):=by
 obtain⟨n,x,y,rfl,hl,M,hy,rfl⟩:=AH h;obtain⟨cs,Y,I⟩:=dX n x y M hy;exact j9n hl (Hb.1 M).1 Y I
theorem j9q {l r i g j caps}(dX:∀(n:Nat) (x y:bG),(l.getD [])[n]?=En x->g x=En y->∃cs,ai pr (X pr) j (.ptr 0 (n*2)::caps) [.cells (bU bD (l.getD []))]=En (.aI [],Ga,[.cells cs])/\cs.map (·.1)=zi bD ((l.getD []).set n y))(h:gP l i g=En r):ae pr (X pr) 241 [sl 2 bD l,Iv i,.fn (.func j) [] caps]=En (sl 2 bD r,Ga):=by
 obtain⟨n,x,y,rfl,hl,M,hy,rfl⟩:=AH h;obtain⟨cs,Y,I⟩:=dX n x y M hy;exact j5f hl (Hb.1 M).1 Y I
theorem zji {l i x}(M:l[i]?=En x):ai pr (X pr) 202 [.ptr 0 (i*5)] [.cells (bU jf l)]=En (.aI [],Ga,[.cells (bU jf (l.set i { x with held:=Gb }))]):=by
 rw[qg (show pr.br 202=En Eu from rfl) (by simp)];have st:jx (bU jf l) (i*5+4) [.bool Gb]=En (bU jf (l.set i { x with held:=Gb })):=nZ (o:=4) gT.len M (Gd rfl) rfl rfl;simp only[go_sem,seval,Eu,st]<;>rfl
def Xa (l:ak jk)(i:Int):Option (ak jk):=gP l i fun x=>En { x with held:=Gb }
theorem jlc {l i r}(h:Xa l i=En r):ae pr (X pr) 188 [sl 5 jf l,Iv i,.fn (.func 202) [] []]=En (sl 5 jf r,Ga):=
 jey (fun n x y M hy=>by cases hy;exact⟨_,zji M,z6⟩) h
theorem zfe {l i x}(M:l[i]?=En x):ai pr (X pr) 203 [.ptr 0 (i*5)] [.cells (bU jf l)]=En (.aI [],Ga,[.cells (bU jf (l.set i { x with held:=Ga }))]):=by
 rw[qg (show pr.br 203=En Ev from rfl) (by simp)];have st:jx (bU jf l) (i*5+4) [.bool Ga]=En (bU jf (l.set i { x with held:=Ga })):=nZ (o:=4) gT.len M (Gd rfl) rfl rfl;simp only[go_sem,seval,Ev,st]<;>rfl
def Xb (l:ak jk)(i:Int):Option (ak jk):=gP l i fun x=>En { x with held:=Ga }
theorem jp5 {l i r}(h:Xb l i=En r):ae pr (X pr) 188 [sl 5 jf l,Iv i,.fn (.func 203) [] []]=En (sl 5 jf r,Ga):=
 jey (fun n x y M hy=>by cases hy;exact⟨_,zfe M,z6⟩) h
theorem zik {l i x}(M:l[i]?=En x):ai pr (X pr) 205 [.ptr 0 (i*8)] [.cells (bU bI l)]=En (.aI [],Ga,[.cells (bU bI (l.set i { x with ax:=Gb }))]):=by
 rw[qg (show pr.br 205=En Ew from rfl) (by simp)];have st:jx (bU bI l) (i*8+6) [.bool Gb]=En (bU bI (l.set i { x with ax:=Gb })):=nZ (o:=6) ez.len M (Gd rfl) rfl rfl;simp only[go_sem,seval,Ew,st]<;>rfl
def Xe (l:ak bz)(i:Int):Option (ak bz):=gP l i fun x=>En { x with ax:=Gb }
theorem jq8 {l i r}(h:Xe l i=En r):ae pr (X pr) 192 [sl 8 bI l,Iv i,.fn (.func 205) [] []]=En (sl 8 bI r,Ga):=
 HX (fun n x y M hy=>by cases hy;exact⟨_,zik M,z6⟩) h
theorem zhv {l i x}(M:l[i]?=En x):ai pr (X pr) 206 [.ptr 0 (i*8)] [.cells (bU bI l)]=En (.aI [],Ga,[.cells (bU bI (l.set i { x with au:=qd .i64 (x.au+1) }))]):=by
 rw[qg (show pr.br 206=En Ey from rfl) (by simp)];have st:jx (bU bI l) (i*8+7) [Iv (qd .i64 (x.au+1))]=En (bU bI (l.set i { x with au:=qd .i64 (x.au+1) })):=nZ (o:=7) ez.len M (Gd rfl) rfl rfl;have ld0:zm (bU bI l) (i*8+7) 1=En [Iv x.au]:=xq (o:=7) ez.len M (by decide);simp only[go_sem,seval,Ey,st,ld0]<;>rfl
def Xf (l:ak bz)(i:Int):Option (ak bz):=gP l i fun x=>En { x with au:=qd .i64 (x.au+1) }
theorem jnr {l i r}(h:Xf l i=En r):ae pr (X pr) 192 [sl 8 bI l,Iv i,.fn (.func 206) [] []]=En (sl 8 bI r,Ga):=
 HX (fun n x y M hy=>by cases hy;exact⟨_,zhv M,z6⟩) h
theorem zj1 {l i x v}(M:l[i]?=En x):ai pr (X pr) 199 [.ptr 0 (i*8),.aq (Iv v)] [.cells (bU bI l)]=En (.aI [],Ga,[.cells (bU bI (l.set i { x with version:=v }))]):=by
 rw[qg (show pr.br 199=En Ez from rfl) (by simp)];have st:jx (bU bI l) (i*8+2) [Iv v]=En (bU bI (l.set i { x with version:=v })):=nZ (o:=2) ez.len M (Gd rfl) rfl rfl;simp only[go_sem,seval,Ez,st]<;>rfl
def Xd (l:ak bz)(i:Int)(v:Int):Option (ak bz):=gP l i fun x=>En { x with version:=v }
theorem jow {l i v r}(h:Xd l i v=En r):ae pr (X pr) 192 [sl 8 bI l,Iv i,.fn (.func 199) [] [.aq (Iv v)]]=En (sl 8 bI r,Ga):=
 HX (fun n x y M hy=>by cases hy;exact⟨_,zj1 M,z6⟩) h
theorem zek {l i x b}(M:l[i]?=En x):ai pr (X pr) 200 [.ptr 0 (i*8),.aq (bI b)] [.cells (bU bI l)]=En (.aI [],Ga,[.cells (bU bI (l.set i { x with partner:=b.name }))]):=by
 rw[qg (show pr.br 200=En EA from rfl) (by simp)];have st:jx (bU bI l) (i*8+5) [.str b.name]=En (bU bI (l.set i { x with partner:=b.name })):=nZ (o:=5) ez.len M (Gd rfl) rfl rfl;simp only[go_sem,seval,EA,st,bI]<;>rfl
def vT (l:ak bz)(i:Int)(b:bz):Option (ak bz):=gP l i fun x=>En { x with partner:=b.name }
theorem jmx {l i b r}(h:vT l i b=En r):ae pr (X pr) 192 [sl 8 bI l,Iv i,.fn (.func 200) [] [.aq (bI b)]]=En (sl 8 bI r,Ga):=
 HX (fun n x y M hy=>by cases hy;exact⟨_,zek M,z6⟩) h
theorem zid {l i x b}(M:l[i]?=En x):ai pr (X pr) 201 [.ptr 0 (i*8),.aq (bI b)] [.cells (bU bI l)]=En (.aI [],Ga,[.cells (bU bI (l.set i { x with partner:=b.name }))]):=by
 rw[qg (show pr.br 201=En EB from rfl) (by simp)];have st:jx (bU bI l) (i*8+5) [.str b.name]=En (bU bI (l.set i { x with partner:=b.name })):=nZ (o:=5) ez.len M (Gd rfl) rfl rfl;simp only[go_sem,seval,EB,st,bI]<;>rfl
def vU (l:ak bz)(i:Int)(b:bz):Option (ak bz):=gP l i fun x=>En { x with partner:=b.name }
theorem jly {l i b r}(h:vU l i b=En r):ae pr (X pr) 192 [sl 8 bI l,Iv i,.fn (.func 201) [] [.aq (bI b)]]=En (sl 8 bI r,Ga):=
 HX (fun n x y M hy=>by cases hy;exact⟨_,zid M,z6⟩) h
theorem zdb {l i x v}(M:l[i]?=En x):ai pr (X pr) 189 [.ptr 0 (i*5),.aq (Iv v)] [.cells (bU jf l)]=En (.aI [],Ga,[.cells (bU jf (l.set i { x with left:=qd .i64 (x.left-v) }))]):=by
 rw[qg (show pr.br 189=En EC from rfl) (by simp)];have st:jx (bU jf l) (i*5+3) [Iv (qd .i64 (x.left-v))]=En (bU jf (l.set i { x with left:=qd .i64 (x.left-v) })):=nZ (o:=3) gT.len M (Gd rfl) rfl rfl;have ld0:zm (bU jf l) (i*5+3) 1=En [Iv x.left]:=xq (o:=3) gT.len M (by decide);simp only[go_sem,seval,EC,st,ld0]<;>rfl
def Xh (l:ak jk)(i:Int)(v:Int):Option (ak jk):=gP l i fun x=>En { x with left:=qd .i64 (x.left-v) }
theorem jn2 {l i v r}(h:Xh l i v=En r):ae pr (X pr) 188 [sl 5 jf l,Iv i,.fn (.func 189) [] [.aq (Iv v)]]=En (sl 5 jf r,Ga):=
 jey (fun n x y M hy=>by cases hy;exact⟨_,zdb M,z6⟩) h
theorem zex {l i x b}(M:l[i]?=En x):ai pr (X pr) 231 [.ptr 0 (i*2),.aq (bD b)] [.cells (bU bD l)]=En (.aI [],Ga,[.cells (bU bD (l.set i b))]):=by
 rw[qg (show pr.br 231=En ED from rfl) (by simp)];have st:jx (bU bD l) (i*2) [.str b.k,Iv b.n]=En (bU bD (l.set i b)):=nZ (o:=0) rL.len M (Gd rfl) rfl rfl;simp only[go_sem,seval,ED,st,bD]<;>rfl
def jzv (l:ak bG)(i:Int)(b:bG):Option (ak bG):=gP l i fun x=>En b
theorem jo1 {l i b r}(h:jzv l i b=En r):ae pr (X pr) 230 [sl 2 bD l,Iv i,.fn (.func 231) [] [.aq (bD b)]]=En (sl 2 bD r,Ga):=
 j61 (fun n x y M hy=>by cases hy;exact⟨_,zex M,z6⟩) h
theorem zc8 {l i x b}(M:l[i]?=En x):ai pr (X pr) 235 [.ptr 0 (i*3),.aq (jb b)] [.cells (bU jb l)]=En (.aI [],Ga,[.cells (bU jb (l.set i b))]):=by
 rw[qg (show pr.br 235=En EE from rfl) (by simp)];have st:jx (bU jb l) (i*3) [.str b.k,Iv b.a,Iv b.b]=En (bU jb (l.set i b)):=nZ (o:=0) uv.len M (Gd rfl) rfl rfl;simp only[go_sem,seval,EE,st,jb]<;>rfl
def j01 (l:ak jh)(i:Int)(b:jh):Option (ak jh):=gP l i fun x=>En b
theorem jqn {l i b r}(h:j01 l i b=En r):ae pr (X pr) 234 [sl 3 jb l,Iv i,.fn (.func 235) [] [.aq (jb b)]]=En (sl 3 jb r,Ga):=
 j71 (fun n x y M hy=>by cases hy;exact⟨_,zc8 M,z6⟩) h
theorem zhm {l i x b}(M:l[i]?=En x):ai pr (X pr) 242 [.ptr 0 (i*2),.aq (bD b)] [.cells (bU bD l)]=En (.aI [],Ga,[.cells (bU bD (l.set i b))]):=by
 rw[qg (show pr.br 242=En EF from rfl) (by simp)];have st:jx (bU bD l) (i*2) [.str b.k,Iv b.n]=En (bU bD (l.set i b)):=nZ (o:=0) rL.len M (Gd rfl) rfl rfl;simp only[go_sem,seval,EF,st,bD]<;>rfl
def j0h (l:ak bG)(i:Int)(b:bG):Option (ak bG):=gP l i fun x=>En b
theorem jra {l i b r}(h:j0h l i b=En r):ae pr (X pr) 241 [sl 2 bD l,Iv i,.fn (.func 242) [] [.aq (bD b)]]=En (sl 2 bD r,Ga):=
 j9q (fun n x y M hy=>by cases hy;exact⟨_,zhm M,z6⟩) h
end Go.Z
namespace Go.Z
open Go Go.Abs Go.W
def f171 (O:bG)(J:aj):Option Bool:=
 En (decide (O.k=J))
theorem jm5 (hp:qh){O J r}(h:f171 O J=En r):ai pr (X pr) 171 [aN O,.aq (.str J)] hp=En (.bool r,Ga,hp):=by
 unfold f171 at h;have Q:decide (O.k=J)=r:=En.inj h;subst Q;rw[qg (show pr.br 171=En EG from rfl) (by simp)];simp only[go_sem,seval,EG]<;>rfl
def S3 (O:ak bG)(aw:aj)(V:Int):Option (Int⊕(Int⊕Int)):=
 cond (decide (V<((O.getD []).length:Int)))
  (qa (ql (O.getD []) V) fun da=>
  qa (f171 da aw) fun dK=>
  cond dK
   (En (.inr (.inl V)))
   (En (.inl (qd .i64 (V+1)))))
  (En (.inr (.inr V)))
def S4 (O:ak bG)(aw:aj)(hp:qh)(V:Int):bg:=⟨[(0,sl 2 bD O,Ga),(1,.fn (.func 171) [] [.aq (.str aw)],Ga),(7,Lv O,Ga),(8,Iv V,Ga)],hp⟩
def S5 (O:ak bG)(aw:aj)(hp:qh):Int⊕Int->q9×bg
 | .inl d=>(.ret,⟨[(4,Iv d,Ga)],hp⟩)| .inr d=>(.exit 0,⟨[(0,sl 2 bD O,Ga),(1,.fn (.func 171) [] [.aq (.str aw)],Ga),(7,Lv O,Ga),(8,Iv d,Ga),(9,.bool Ga,Ga)],hp⟩)
theorem jvt (O:ak bG)(aw:aj)(hp:qh)(V:Int)(r)(h:S3 O aw V=En r):jo pr rO (S4 O aw hp) (S5 O aw hp) V r:=by
 unfold S3 at h
 repeat' first|(replace h:=qb h;obtain⟨d,g,h⟩:=h;with_reducible first|replace g:=jm5 hp g|skip)|(replace h:=qc h;rcases h with⟨g,h⟩|⟨g,h⟩)
 all_goals (cases h<;>((first|refine qn ?_|refine jr ?_);simp only[go_sem,seval,rO,S4,ji,S5, *]<;>rfl))
theorem jva (O:ak bG)(aw:aj)(hp:qh){V d}(h:bd (S3 O aw) V=En d):X pr (.loop rO) (S4 O aw hp V)=En (S5 O aw hp d):=zz (jvt O aw hp) h
def Kl (O:ak bG)(aw:aj):Option Int:=
 qa (bd (S3 O aw) 0) fun d19=>match d19 with
  | .inl d21=>
   En d21
  | .inr d22=>
   En (-1)
theorem j5o (hp:qh){O aw r}(h:Kl O aw=En r):ai pr (X pr) 228 [sl 2 bD O,.fn (.func 171) [] [.aq (.str aw)]] hp=En (Iv r,Ga,hp):=by
 unfold Kl at h;rw[qg (show pr.br 228=En mf from rfl) (by simp)]
 repeat' first|(replace h:=qb h;obtain⟨d,g,h⟩:=h;with_reducible first|(replace g:=jva O aw hp g;rcases d with d|d<;>dsimp only[S4,S5,zc]at g h)|skip)|(replace h:=qc h;rcases h with⟨g,h⟩|⟨g,h⟩)
 all_goals (cases h<;>(simp only[go_sem,seval,mf, *]<;>rfl))
def S6 (O:ak bG)(aw:aj)(V:Int):Option (Int⊕(Int⊕Int)):=
 cond (decide (V<((O.getD []).length:Int)))
  (qa (ql (O.getD []) V) fun da=>
  qa (f171 da aw) fun dK=>
  cond dK
   (En (.inr (.inl V)))
   (En (.inl (qd .i64 (V+1)))))
  (En (.inr (.inr V)))
def S7 (O:ak bG)(aw:aj)(V:Int):bg:=⟨[(0,sl 2 bD O,Ga),(1,.fn (.func 171) [] [.aq (.str aw)],Ga),(7,Lv O,Ga),(8,Iv V,Ga)],[]⟩
def S8 (O:ak bG)(aw:aj):Int⊕Int->q9×bg
 | .inl d=>(.ret,⟨[(4,Iv d,Ga)],[]⟩)| .inr d=>(.exit 0,⟨[(0,sl 2 bD O,Ga),(1,.fn (.func 171) [] [.aq (.str aw)],Ga),(7,Lv O,Ga),(8,Iv d,Ga),(9,.bool Ga,Ga)],[]⟩)
theorem jug (O:ak bG)(aw:aj)(V:Int)(r)(h:S6 O aw V=En r):jo pr rO (S7 O aw) (S8 O aw) V r:=by
 unfold S6 at h
 repeat' first|(replace h:=qb h;obtain⟨d,g,h⟩:=h;with_reducible first|replace g:=jm5 [] g|skip)|(replace h:=qc h;rcases h with⟨g,h⟩|⟨g,h⟩)
 all_goals (cases h<;>((first|refine qn ?_|refine jr ?_);simp only[go_sem,seval,rO,S7,ji,S8, *]<;>rfl))
theorem jsn (O:ak bG)(aw:aj){V d}(h:bd (S6 O aw) V=En d):X pr (.loop rO) (S7 O aw V)=En (S8 O aw d):=zz (jug O aw) h
def Ki (O:ak bG)(aw:aj):Option Int:=
 qa (bd (S6 O aw) 0) fun d19=>match d19 with
  | .inl d21=>
   En d21
  | .inr d22=>
   En (-1)
theorem j9m {O aw r}(h:Ki O aw=En r):ae pr (X pr) 228 [sl 2 bD O,.fn (.func 171) [] [.aq (.str aw)]]=En (Iv r,Ga):=by
 unfold Ki at h;refine jz mf ?_
 repeat' first|(replace h:=qb h;obtain⟨d,g,h⟩:=h;with_reducible first|(replace g:=jsn O aw g;rcases d with d|d<;>dsimp only[S7,S8,zc]at g h)|skip)|(replace h:=qc h;rcases h with⟨g,h⟩|⟨g,h⟩)
 all_goals (cases h<;>(simp only[go_sem,seval,mf, *];exact⟨_,rfl⟩))
def Kk (O:ak bG)(aw:aj):Option Bool:=
 qa (Kl O aw) fun v1=>
 En (decide (0<=v1))
theorem j5i {O aw r}(h:Kk O aw=En r):ae pr (X pr) 172 [sl 2 bD O,.fn (.func 171) [] [.aq (.str aw)]]=En (.bool r,Ga):=by
 unfold Kk at h;refine jz pn ?_
 repeat' first|(replace h:=qb h;obtain⟨d,g,h⟩:=h;with_reducible first|replace g:=j5o [] g|skip)|(replace h:=qc h;rcases h with⟨g,h⟩|⟨g,h⟩)
 all_goals (cases h<;>(simp only[go_sem,seval,pn, *];exact⟨_,rfl⟩))
def f187 (O:bG)(J:jk):Option Bool:=
 En (decide (O.k=J.kind))
theorem zdz (hp:qh){O J r}(h:f187 O J=En r):ai pr (X pr) 187 [aN O,.aq (aL J)] hp=En (.bool r,Ga,hp):=by
 unfold f187 at h;have Q:decide (O.k=J.kind)=r:=En.inj h;subst Q;rw[qg (show pr.br 187=En EH from rfl) (by simp)];simp only[go_sem,seval,EH]<;>rfl
def S9 (O:ak bG)(aw:jk)(V:Int):Option (Int⊕(Int⊕Int)):=
 cond (decide (V<((O.getD []).length:Int)))
  (qa (ql (O.getD []) V) fun da=>
  qa (f187 da aw) fun dK=>
  cond dK
   (En (.inr (.inl V)))
   (En (.inl (qd .i64 (V+1)))))
  (En (.inr (.inr V)))
def Ta (O:ak bG)(aw:jk)(hp:qh)(V:Int):bg:=⟨[(0,sl 2 bD O,Ga),(1,.fn (.func 187) [] [.aq (aL aw)],Ga),(7,Lv O,Ga),(8,Iv V,Ga)],hp⟩
def Tb (O:ak bG)(aw:jk)(hp:qh):Int⊕Int->q9×bg
 | .inl d=>(.ret,⟨[(4,Iv d,Ga)],hp⟩)| .inr d=>(.exit 0,⟨[(0,sl 2 bD O,Ga),(1,.fn (.func 187) [] [.aq (aL aw)],Ga),(7,Lv O,Ga),(8,Iv d,Ga),(9,.bool Ga,Ga)],hp⟩)
theorem js5 (O:ak bG)(aw:jk)(hp:qh)(V:Int)(r)(h:S9 O aw V=En r):jo pr rO (Ta O aw hp) (Tb O aw hp) V r:=by
 unfold S9 at h
 repeat' first|(replace h:=qb h;obtain⟨d,g,h⟩:=h;with_reducible first|replace g:=zdz hp g|skip)|(replace h:=qc h;rcases h with⟨g,h⟩|⟨g,h⟩)
 all_goals (cases h<;>((first|refine qn ?_|refine jr ?_);simp only[go_sem,seval,rO,Ta,ji,Tb, *]<;>rfl))
theorem jte (O:ak bG)(aw:jk)(hp:qh){V d}(h:bd (S9 O aw) V=En d):X pr (.loop rO) (Ta O aw hp V)=En (Tb O aw hp d):=zz (js5 O aw hp) h
def Kn (O:ak bG)(aw:jk):Option Int:=
 qa (bd (S9 O aw) 0) fun d19=>match d19 with
  | .inl d21=>
   En d21
  | .inr d22=>
   En (-1)
theorem j7c (hp:qh){O aw r}(h:Kn O aw=En r):ai pr (X pr) 228 [sl 2 bD O,.fn (.func 187) [] [.aq (aL aw)]] hp=En (Iv r,Ga,hp):=by
 unfold Kn at h;rw[qg (show pr.br 228=En mf from rfl) (by simp)]
 repeat' first|(replace h:=qb h;obtain⟨d,g,h⟩:=h;with_reducible first|(replace g:=jte O aw hp g;rcases d with d|d<;>dsimp only[Ta,Tb,zc]at g h)|skip)|(replace h:=qc h;rcases h with⟨g,h⟩|⟨g,h⟩)
 all_goals (cases h<;>(simp only[go_sem,seval,mf, *]<;>rfl))
def Km (O:ak bG)(aw:jk):Option Bool:=
 qa (Kn O aw) fun v1=>
 En (decide (0<=v1))
theorem j56 {O aw r}(h:Km O aw=En r):ae pr (X pr) 172 [sl 2 bD O,.fn (.func 187) [] [.aq (aL aw)]]=En (.bool r,Ga):=by
 unfold Km at h;refine jz pn ?_
 repeat' first|(replace h:=qb h;obtain⟨d,g,h⟩:=h;with_reducible first|replace g:=j7c [] g|skip)|(replace h:=qc h;rcases h with⟨g,h⟩|⟨g,h⟩)
 all_goals (cases h<;>(simp only[go_sem,seval,pn, *];exact⟨_,rfl⟩))
def f176 (O:bG)(nM:aj):Option Bool:=
 qa (f171 O nM) fun v1=>
 En (!v1)
theorem zh2 (hp:qh){O nM r}(h:f176 O nM=En r):ai pr (X pr) 176 [aN O,.aq (.fn (.func 171) [] [.aq (.str nM)])] hp=En (.bool r,Ga,hp):=by
 unfold f176 at h;obtain⟨v1,I,h⟩:=qb h;have lC:ai pr (X pr) 171 [aN O,.aq (.str nM)] hp=En (.bool v1,Ga,hp):=jm5 hp I;have Q:(!v1)=r:=En.inj h;subst Q;rw[qg (show pr.br 176=En EI from rfl) (by simp)];simp only[go_sem,seval,EI,lC]<;>rfl
def Kj (O:ak bG)(cq:aj)(V:(ak bG)×Int×Bool):Option (((ak bG)×Int×Bool)⊕(((ak bG)×Bool×Int))):=
 cond (decide (V.2.1<((O.getD []).length:Int)))
  (qa (ql (O.getD []) V.2.1) fun v20=>
  qa (f176 v20 cq) fun v22=>
  cond v22
   (cond V.2.2
    (qa (bB V.1 [v20]) fun v26=>
    En (.inl (v26,qd .i64 (V.2.1+1),Gb)))
    (cond V.1.isNone
     (qa (bB V.1 [v20]) fun dJ=>
     En (.inl (dJ,qd .i64 (V.2.1+1),Gb)))
     (Ha)))
   (En (.inl (V.1,qd .i64 (V.2.1+1),V.2.2))))
  (En (.inr (V.1,V.2.2,V.2.1)))
def Tc (O:ak bG)(cq:aj)(hp:qh)(V:(ak bG)×Int×Bool):bg:=⟨[(1,.fn (.func 176) [] [.aq (.fn (.func 171) [] [.aq (.str cq)])],Ga),(5,sl 2 bD V.1,V.2.2),(8,sl 2 bD O,Ga),(9,Lv O,Ga),(10,Iv V.2.1,Ga)],hp⟩
def Td (O:ak bG)(cq:aj)(hp:qh)(d:((ak bG)×Bool×Int)):q9×bg:=(.exit 0,⟨[(1,.fn (.func 176) [] [.aq (.fn (.func 171) [] [.aq (.str cq)])],Ga),(5,sl 2 bD d.1,d.2.1),(8,sl 2 bD O,Ga),(9,Lv O,Ga),(10,Iv d.2.2,Ga),(11,.bool Ga,Ga)],hp⟩)
theorem j3n (O:ak bG)(cq:aj)(hp:qh)(V:(ak bG)×Int×Bool)(r)(h:Kj O cq V=En r):jo pr Te (Tc O cq hp) (Td O cq hp) V r:=by
 unfold Kj at h
 repeat' first|(replace h:=qb h;obtain⟨d,g,h⟩:=h;with_reducible first|replace g:=zh2 hp g|replace g:=BM g|skip)|(replace h:=qc h;rcases h with⟨g,h⟩|⟨g,h⟩)
 all_goals (cases h<;>((first|refine qn ?_|refine jr ?_);simp only[go_sem,seval,Te,Tc,ji,Td, *]<;>rfl))
theorem j3l (O:ak bG)(cq:aj)(hp:qh){V d}(h:bd (Kj O cq) V=En d):X pr (.loop Te) (Tc O cq hp V)=En (Td O cq hp d):=zz (j3n O cq hp) h
def f175 (O:ak bG)(cq:aj):Option ((ak bG)×Bool):=
 qa (bd (Kj O cq) (Ha,0,Ga)) fun d31=>
 En (d31.1,d31.2.1)
theorem zgg (hp:qh){O cq r}(h:f175 O cq=En r):ai pr (X pr) 175 [sl 2 bD O,.fn (.func 176) [] [.aq (.fn (.func 171) [] [.aq (.str cq)])]] hp=En (sl 2 bD r.1,r.2,hp):=by
 unfold f175 at h;rw[qg (show pr.br 175=En EJ from rfl) (by simp)]
 repeat' first|(replace h:=qb h;obtain⟨d,g,h⟩:=h;with_reducible first|(replace g:=j3l O cq hp g;dsimp only[Tc,Td,zc]at g h)|skip)|(replace h:=qc h;rcases h with⟨g,h⟩|⟨g,h⟩)
 all_goals (cases h<;>(simp only[go_sem,seval,EJ, *]<;>rfl))
def f177 (O:ak bG)(J:bG)(dT:aj):Option ((ak bG)×Bool):=
 qa (Ki O dT) fun v1=>
 cond (decide (0<=v1))
  (qa (jzv O v1 J) fun v4=>
  En (v4,Ga))
  (qa (f232 O J) fun v6=>
  En (v6,Gb))
theorem zd5 {O J dT r}(h:f177 O J dT=En r):ae pr (X pr) 177 [sl 2 bD O,aN J,.fn (.func 171) [] [.aq (.str dT)]]=En (sl 2 bD r.1,r.2):=by
 unfold f177 at h;refine yc EK ?_
 repeat' first|(replace h:=qb h;obtain⟨d,g,h⟩:=h; (with_reducible first|replace g:=j9m g|replace g:=jo1 g|replace g:=zda g|skip);try dsimp only[zc,n6,Ig,zf,qx,jf,qw,bI,zw,bK,bD,jb,yv,aE,aR,aU,aL,aP,aD]at g)|(replace h:=qc h;rcases h with⟨g,h⟩|⟨g,h⟩)
 all_goals (cases h<;>(simp only[go_sem,seval,EK, *];exact⟨_,rfl⟩))
def f178 (O:jh)(J:jh):Option Bool:=
 En (decide (O.k=J.k))
theorem zc7 (hp:qh){O J r}(h:f178 O J=En r):ai pr (X pr) 178 [aT O,.aq (aT J)] hp=En (.bool r,Ga,hp):=by
 unfold f178 at h;have Q:decide (O.k=J.k)=r:=En.inj h;subst Q;rw[qg (show pr.br 178=En EL from rfl) (by simp)];simp only[go_sem,seval,EL]<;>rfl
def Tf (O:ak jh)(aw:jh)(V:Int):Option (Int⊕(Int⊕Int)):=
 cond (decide (V<((O.getD []).length:Int)))
  (qa (ql (O.getD []) V) fun da=>
  qa (f178 da aw) fun dK=>
  cond dK
   (En (.inr (.inl V)))
   (En (.inl (qd .i64 (V+1)))))
  (En (.inr (.inr V)))
def Tg (O:ak jh)(aw:jh)(V:Int):bg:=⟨[(0,sl 3 jb O,Ga),(1,.fn (.func 178) [] [.aq (aT aw)],Ga),(7,Lv O,Ga),(8,Iv V,Ga)],[]⟩
def Ti (O:ak jh)(aw:jh):Int⊕Int->q9×bg
 | .inl d=>(.ret,⟨[(4,Iv d,Ga)],[]⟩)| .inr d=>(.exit 0,⟨[(0,sl 3 jb O,Ga),(1,.fn (.func 178) [] [.aq (aT aw)],Ga),(7,Lv O,Ga),(8,Iv d,Ga),(9,.bool Ga,Ga)],[]⟩)
theorem jsi (O:ak jh)(aw:jh)(V:Int)(r)(h:Tf O aw V=En r):jo pr EM (Tg O aw) (Ti O aw) V r:=by
 unfold Tf at h
 repeat' first|(replace h:=qb h;obtain⟨d,g,h⟩:=h;with_reducible first|replace g:=zc7 [] g|skip)|(replace h:=qc h;rcases h with⟨g,h⟩|⟨g,h⟩)
 all_goals (cases h<;>((first|refine qn ?_|refine jr ?_);simp only[go_sem,seval,EM,Tg,ji,Ti, *]<;>rfl))
theorem jvs (O:ak jh)(aw:jh){V d}(h:bd (Tf O aw) V=En d):X pr (.loop EM) (Tg O aw V)=En (Ti O aw d):=zz (jsi O aw) h
def zV (O:ak jh)(aw:jh):Option Int:=
 qa (bd (Tf O aw) 0) fun d19=>match d19 with
  | .inl d21=>
   En d21
  | .inr d22=>
   En (-1)
theorem jrt {O aw r}(h:zV O aw=En r):ae pr (X pr) 233 [sl 3 jb O,.fn (.func 178) [] [.aq (aT aw)]]=En (Iv r,Ga):=by
 unfold zV at h;refine jz ux ?_
 repeat' first|(replace h:=qb h;obtain⟨d,g,h⟩:=h;with_reducible first|(replace g:=jvs O aw g;rcases d with d|d<;>dsimp only[Tg,Ti,zc]at g h)|skip)|(replace h:=qc h;rcases h with⟨g,h⟩|⟨g,h⟩)
 all_goals (cases h<;>(simp only[go_sem,seval,ux, *];exact⟨_,rfl⟩))
def Ko (O:ak jh)(aw:jh):Option Bool:=
 qa (zV O aw) fun v1=>
 En (decide (0<=v1))
theorem j7q {O aw r}(h:Ko O aw=En r):ae pr (X pr) 179 [sl 3 jb O,.fn (.func 178) [] [.aq (aT aw)]]=En (.bool r,Ga):=by
 unfold Ko at h;refine jz uy ?_
 repeat' first|(replace h:=qb h;obtain⟨d,g,h⟩:=h;with_reducible first|replace g:=jrt g|skip)|(replace h:=qc h;rcases h with⟨g,h⟩|⟨g,h⟩)
 all_goals (cases h<;>(simp only[go_sem,seval,uy, *];exact⟨_,rfl⟩))
def f181 (O:ak jh)(J:jh)(dT:jh):Option ((ak jh)×Bool):=
 qa (zV O dT) fun v1=>
 cond (decide (0<=v1))
  (qa (j01 O v1 J) fun v4=>
  En (v4,Ga))
  (qa (f236 O J) fun v6=>
  En (v6,Gb))
theorem zg0 {O J dT r}(h:f181 O J dT=En r):ae pr (X pr) 181 [sl 3 jb O,aT J,.fn (.func 178) [] [.aq (aT dT)]]=En (sl 3 jb r.1,r.2):=by
 unfold f181 at h;refine yc EN ?_
 repeat' first|(replace h:=qb h;obtain⟨d,g,h⟩:=h; (with_reducible first|replace g:=jrt g|replace g:=jqn g|replace g:=zed g|skip);try dsimp only[zc,n6,Ig,zf,qx,jf,qw,bI,zw,bK,bD,jb,yv,aE,aR,aU,aL,aP,aD]at g)|(replace h:=qc h;rcases h with⟨g,h⟩|⟨g,h⟩)
 all_goals (cases h<;>(simp only[go_sem,seval,EN, *];exact⟨_,rfl⟩))
def f195 (O:jh)(J:aC):Option Bool:=
 qa (ql (J.names.getD []) 1) fun v1=>
 En (decide (O.k=v1))
theorem zf6 (hp:qh){O J r}(h:f195 O J=En r):ai pr (X pr) 195 [aT O,.aq (aE J)] hp=En (.bool r,Ga,hp):=by
 unfold f195 at h;obtain⟨v1,I,h⟩:=qb h;have Q:decide (O.k=v1)=r:=En.inj h;subst Q;rw[qg (show pr.br 195=En EO from rfl) (by simp)];simp only[go_sem,seval,EO,jn I]<;>rfl
def Kr (O:ak jh)(aw:aC)(V:Int):Option (Int⊕(Int⊕Int)):=
 cond (decide (V<((O.getD []).length:Int)))
  (qa (ql (O.getD []) V) fun da=>
  qa (f195 da aw) fun dK=>
  cond dK
   (En (.inr (.inl V)))
   (En (.inl (qd .i64 (V+1)))))
  (En (.inr (.inr V)))
def Tj (O:ak jh)(aw:aC)(V:Int):bg:=⟨[(0,sl 3 jb O,Ga),(1,.fn (.func 195) [] [.aq (aE aw)],Ga),(7,Lv O,Ga),(8,Iv V,Ga)],[]⟩
def Tk (O:ak jh)(aw:aC):Int⊕Int->q9×bg
 | .inl d=>(.ret,⟨[(4,Iv d,Ga)],[]⟩)| .inr d=>(.exit 0,⟨[(0,sl 3 jb O,Ga),(1,.fn (.func 195) [] [.aq (aE aw)],Ga),(7,Lv O,Ga),(8,Iv d,Ga),(9,.bool Ga,Ga)],[]⟩)
theorem jsq (O:ak jh)(aw:aC)(V:Int)(r)(h:Kr O aw V=En r):jo pr EM (Tj O aw) (Tk O aw) V r:=by
 unfold Kr at h
 repeat' first|(replace h:=qb h;obtain⟨d,g,h⟩:=h;with_reducible first|replace g:=zf6 [] g|skip)|(replace h:=qc h;rcases h with⟨g,h⟩|⟨g,h⟩)
 all_goals (cases h<;>((first|refine qn ?_|refine jr ?_);simp only[go_sem,seval,EM,Tj,ji,Tk, *]<;>rfl))
theorem jtf (O:ak jh)(aw:aC){V d}(h:bd (Kr O aw) V=En d):X pr (.loop EM) (Tj O aw V)=En (Tk O aw d):=zz (jsq O aw) h
def Kq (O:ak jh)(aw:aC):Option Int:=
 qa (bd (Kr O aw) 0) fun d19=>match d19 with
  | .inl d21=>
   En d21
  | .inr d22=>
   En (-1)
theorem j46 {O aw r}(h:Kq O aw=En r):ae pr (X pr) 233 [sl 3 jb O,.fn (.func 195) [] [.aq (aE aw)]]=En (Iv r,Ga):=by
 unfold Kq at h;refine jz ux ?_
 repeat' first|(replace h:=qb h;obtain⟨d,g,h⟩:=h;with_reducible first|(replace g:=jtf O aw g;rcases d with d|d<;>dsimp only[Tj,Tk,zc]at g h)|skip)|(replace h:=qc h;rcases h with⟨g,h⟩|⟨g,h⟩)
 all_goals (cases h<;>(simp only[go_sem,seval,ux, *];exact⟨_,rfl⟩))
def Kp (O:ak jh)(aw:aC):Option Bool:=
 qa (Kq O aw) fun v1=>
 En (decide (0<=v1))
theorem j9a {O aw r}(h:Kp O aw=En r):ae pr (X pr) 179 [sl 3 jb O,.fn (.func 195) [] [.aq (aE aw)]]=En (.bool r,Ga):=by
 unfold Kp at h;refine jz uy ?_
 repeat' first|(replace h:=qb h;obtain⟨d,g,h⟩:=h;with_reducible first|replace g:=j46 g|skip)|(replace h:=qc h;rcases h with⟨g,h⟩|⟨g,h⟩)
 all_goals (cases h<;>(simp only[go_sem,seval,uy, *];exact⟨_,rfl⟩))
def f190 (O:bG)(J:jk):Option Bool:=
 En (decide (O.k=J.name))
theorem zdn (hp:qh){O J r}(h:f190 O J=En r):ai pr (X pr) 190 [aN O,.aq (aL J)] hp=En (.bool r,Ga,hp):=by
 unfold f190 at h;have Q:decide (O.k=J.name)=r:=En.inj h;subst Q;rw[qg (show pr.br 190=En EP from rfl) (by simp)];simp only[go_sem,seval,EP]<;>rfl
def Tl (O:ak bG)(aw:jk)(V:Int):Option (Int⊕(Int⊕Int)):=
 cond (decide (V<((O.getD []).length:Int)))
  (qa (ql (O.getD []) V) fun da=>
  qa (f190 da aw) fun dK=>
  cond dK
   (En (.inr (.inl V)))
   (En (.inl (qd .i64 (V+1)))))
  (En (.inr (.inr V)))
def Tm (O:ak bG)(aw:jk)(V:Int):bg:=⟨[(0,sl 2 bD O,Ga),(1,.fn (.func 190) [] [.aq (aL aw)],Ga),(7,Lv O,Ga),(8,Iv V,Ga)],[]⟩
def Tn (O:ak bG)(aw:jk):Int⊕Int->q9×bg
 | .inl d=>(.ret,⟨[(4,Iv d,Ga)],[]⟩)| .inr d=>(.exit 0,⟨[(0,sl 2 bD O,Ga),(1,.fn (.func 190) [] [.aq (aL aw)],Ga),(7,Lv O,Ga),(8,Iv d,Ga),(9,.bool Ga,Ga)],[]⟩)
theorem jyh (O:ak bG)(aw:jk)(V:Int)(r)(h:Tl O aw V=En r):jo pr Tp (Tm O aw) (Tn O aw) V r:=by
 unfold Tl at h
 repeat' first|(replace h:=qb h;obtain⟨d,g,h⟩:=h;with_reducible first|replace g:=zdn [] g|skip)|(replace h:=qc h;rcases h with⟨g,h⟩|⟨g,h⟩)
 all_goals (cases h<;>((first|refine qn ?_|refine jr ?_);simp only[go_sem,seval,Tp,Tm,ji,Tn, *]<;>rfl))
theorem j2f (O:ak bG)(aw:jk){V d}(h:bd (Tl O aw) V=En d):X pr (.loop Tp) (Tm O aw V)=En (Tn O aw d):=zz (jyh O aw) h
def f191 (O:ak bG)(aw:jk):Option Int:=
 qa (bd (Tl O aw) 0) fun d19=>match d19 with
  | .inl d21=>
   En d21
  | .inr d22=>
   En (-1)
theorem j3a {O aw r}(h:f191 O aw=En r):ae pr (X pr) 191 [sl 2 bD O,.fn (.func 190) [] [.aq (aL aw)]]=En (Iv r,Ga):=by
 unfold f191 at h;refine jz EQ ?_
 repeat' first|(replace h:=qb h;obtain⟨d,g,h⟩:=h;with_reducible first|(replace g:=j2f O aw g;rcases d with d|d<;>dsimp only[Tm,Tn,zc]at g h)|skip)|(replace h:=qc h;rcases h with⟨g,h⟩|⟨g,h⟩)
 all_goals (cases h<;>(simp only[go_sem,seval,EQ, *];exact⟨_,rfl⟩))
def f194 (O:ak bG)(J:bG)(dT:jk):Option ((ak bG)×Bool):=
 qa (f191 O dT) fun v1=>
 cond (decide (0<=v1))
  (qa (j0h O v1 J) fun v4=>
  En (v4,Ga))
  (qa (f243 O J) fun v6=>
  En (v6,Gb))
theorem zdp {O J dT r}(h:f194 O J dT=En r):ae pr (X pr) 194 [sl 2 bD O,aN J,.fn (.func 190) [] [.aq (aL dT)]]=En (sl 2 bD r.1,r.2):=by
 unfold f194 at h;refine yc ER ?_
 repeat' first|(replace h:=qb h;obtain⟨d,g,h⟩:=h; (with_reducible first|replace g:=j3a g|replace g:=jra g|replace g:=zjf g|skip);try dsimp only[zc,n6,Ig,zf,qx,jf,qw,bI,zw,bK,bD,jb,yv,aE,aR,aU,aL,aP,aD]at g)|(replace h:=qc h;rcases h with⟨g,h⟩|⟨g,h⟩)
 all_goals (cases h<;>(simp only[go_sem,seval,ER, *];exact⟨_,rfl⟩))
end Go.Z
namespace Go.Z
open Go Go.Abs Go.W
theorem HY {α:Type}{f:α->AVal}{sz}(E:rK f sz){l i o x y u}(M:l[i]?=En x)(ho:o<sz)(hy:(f y).flat=(f x).flat.set o u)(w:Bool):((bU f l).set (i*sz+o) (u,w)).map (·.1)=zi f (l.set i y):=by
 have h:=congrArg (Ig (·.1)) (jbe E.len M ho hy);rw[List.map_set]at h ⊢;rw[show(bU f (l.set i y)).map (·.1)=zi f (l.set i y)from z6]at h;exact h
theorem L9 {α:Type}{f:α->AVal}{sz}(E:rK f sz){l i o x}(M:l[i]?=En x)(ho:o<sz):i*sz+o<(bU f l).length:=by
 have h:=(Gl (n:=1) (o:=o) E.len M (by omega)).2;simp only[bU,cellsOf,Ik];omega
def Kt (c:Int)(nm k:aj)(x:bw):Option bw:=cond (decide (c=0))
 (qa (f175 x.dn nm) fun v=>En { x with dn:=v.1 })
 (qa (f177 x.dn ⟨k,c⟩ nm) fun v=>En { x with dn:=v.1 })
theorem zf3 {l:List bw}{i:Nat}{x y c nm k}(M:l[i]?=En x)(h:Kt c nm k x=En y):
  ∃cs,ai pr (X pr) 174 [.ptr 0 (i*4+1),.aq (Iv c),.aq (.fn (.func 171) [] [.aq (.str nm)]),.aq (.str k)] [.cells (bU qw l)]=En (.aI [],Ga,[.cells cs])/\cs.map (·.1)=zi qw (l.set i y):=by
 unfold Kt at h;have ld:zm (bU qw l) (i*4+1) 1=En [sl 2 bD x.dn]:=xq (o:=1) cM.len M (by decide);have hb:=L9 cM (o:=1) M (by decide);rcases qc h with⟨Y,h⟩|⟨Y,h⟩
 .obtain⟨v,hv,h⟩:=qb h;cases h;have w:=zgg [.cells (bU qw l)] hv;rcases v with⟨v,o⟩;have hy:(qw { x with dn:=v }).flat=(qw x).flat.set 1 (sl 2 bD v):=rfl;have st:jx (bU qw l) (i*4+1) [sl 2 bD v]=En (bU qw (l.set i { x with dn:=v })):=nZ (o:=1) cM.len M (Gd rfl) (by simp only[Ix,go_sem,Ii]) rfl
  cases o with
  |true=>exact⟨_,by rw[qg (show pr.br 174=En mg from rfl) (by simp)];simp only[go_sem,seval,mg,Y,ld,w,hb]<;>rfl,HY cM M (by decide) hy Gb⟩|false=>exact⟨_,by rw[qg (show pr.br 174=En mg from rfl) (by simp)];simp only[go_sem,seval,mg,Y,ld,w,st]<;>rfl,z6⟩
 .obtain⟨v,hv,h⟩:=qb h;cases h;have w:ae pr (X pr) 177 [sl 2 bD x.dn,.agg [.str k,Iv c],.fn (.func 171) [] [.aq (.str nm)]]=En (sl 2 bD v.1,v.2):=zd5 hv;rcases v with⟨v,o⟩;have hy:(qw { x with dn:=v }).flat=(qw x).flat.set 1 (sl 2 bD v):=rfl;have st:jx (bU qw l) (i*4+1) [sl 2 bD v]=En (bU qw (l.set i { x with dn:=v })):=nZ (o:=1) cM.len M (Gd rfl) (by simp only[Ix,go_sem,Ii]) rfl
  cases o with
  |true=>exact⟨_,by rw[qg (show pr.br 174=En mg from rfl) (by simp)];simp only[go_sem,seval,mg,Y,ld,w,hb]<;>rfl,HY cM M (by decide) hy Gb⟩|false=>exact⟨_,by rw[qg (show pr.br 174=En mg from rfl) (by simp)];simp only[go_sem,seval,mg,Y,ld,w,st]<;>rfl,z6⟩
def W4 (l:ak bw)(i:Int)(c:Int)(nm k:aj):Option (ak bw):=gP l i (Kt c nm k)
theorem jor {l i c nm k r}(h:W4 l i c nm k=En r):ae pr (X pr) 182 [sl 4 qw l,Iv i,.fn (.func 229) [] [.aq (.fn (.func 174) [] [.aq (Iv c),.aq (.fn (.func 171) [] [.aq (.str nm)]),.aq (.str k)])]]=En (sl 4 qw r,Ga):=by
 refine jeq (fun n x y M hy=>?_) h;obtain⟨cs,Y,I⟩:=zf3 M hy;exact⟨cs,by rw[qg (show pr.br 229=En uz from rfl) (by simp)];simp only[go_sem,seval,uz,Y]<;>rfl,I⟩
def Ku (t s:jh)(x:bw):Option bw:=qa (f181 x.dt t s) fun v=>En { x with dt:=v.1 }
theorem zgf {l:List bw}{i:Nat}{x y t s}(M:l[i]?=En x)(h:Ku t s x=En y):
  ∃cs,ai pr (X pr) 180 [.ptr 0 (i*4+1),.aq (jb t),.aq (.fn (.func 178) [] [.aq (jb s)])] [.cells (bU qw l)]=En (.aI [],Ga,[.cells cs])/\cs.map (·.1)=zi qw (l.set i y):=by
 unfold Ku at h;have ld:zm (bU qw l) (i*4+1+1) 1=En [sl 3 jb x.dt]:=xq (o:=2) cM.len M (by decide);have hb:i*4+1+1<(bU qw l).length:=L9 cM (o:=2) M (by decide);obtain⟨v,hv,h⟩:=qb h;cases h;have w:ae pr (X pr) 181 [sl 3 jb x.dt,aT t,.fn (.func 178) [] [.aq (aT s)]]=En (sl 3 jb v.1,v.2):=zg0 hv;rcases v with⟨v,o⟩;have hy:(qw { x with dt:=v }).flat=(qw x).flat.set 2 (sl 3 jb v):=rfl;have st:jx (bU qw l) (i*4+1+1) [sl 3 jb v]=En (bU qw (l.set i { x with dt:=v })):=nZ (o:=2) cM.len M (Gd rfl) (by simp only[Ix,go_sem,Ii]) rfl
 cases o with
 |true=>exact⟨_,by rw[qg (show pr.br 180=En uD from rfl) (by simp)];simp only[go_sem,seval,uD,jb,ld,w,hb]<;>rfl,HY cM (o:=2) M (by decide) hy Gb⟩|false=>exact⟨_,by rw[qg (show pr.br 180=En uD from rfl) (by simp)];simp only[go_sem,seval,uD,jb,ld,w,st]<;>rfl,z6⟩
def W7 (l:ak bw)(i:Int)(t s:jh):Option (ak bw):=gP l i (Ku t s)
theorem jmk {l i t s r}(h:W7 l i t s=En r):ae pr (X pr) 182 [sl 4 qw l,Iv i,.fn (.func 229) [] [.aq (.fn (.func 180) [] [.aq (jb t),.aq (.fn (.func 178) [] [.aq (jb s)])])]]=En (sl 4 qw r,Ga):=by
 refine jeq (fun n x y M hy=>?_) h;obtain⟨cs,Y,I⟩:=zgf M hy;simp only[jit]at Y;exact⟨cs,by rw[qg (show pr.br 229=En uz from rfl) (by simp)];simp only[go_sem,seval,uz,Y]<;>rfl,I⟩
def Pq (x:bw):Option bw:=qa (f185 ⟨x.dn,x.dt⟩) fun d=>qa (f184 x.bm d) fun v=>En { x with bm:=v }
theorem zfb {l:List bw}{i:Nat}{x y}(M:l[i]?=En x)(h:Pq x=En y):
  ∃cs,ai pr (X pr) 183 [.ptr 0 (i*4)] [.cells (bU qw l)]=En (.aI [],Ga,[.cells cs])/\cs.map (·.1)=zi qw (l.set i y):=by
 unfold Pq at h;have ld:zm (bU qw l) (i*4+3) 1=En [sl 2 yv x.bm]:=xq (o:=3) cM.len M (by decide);have ld2:zm (bU qw l) (i*4+1) 2=En [sl 2 bD x.dn,sl 3 jb x.dt]:=xq (o:=1) cM.len M (by decide);have hb:i*4+3<(bU qw l).length:=L9 cM (o:=3) M (by decide);obtain⟨d,hd,h⟩:=qb h;obtain⟨v,hv,h⟩:=qb h;cases h;have w:ae pr (X pr) 185 [.agg [sl 2 bD x.dn,sl 3 jb x.dt]]=En (aD d,Ga):=zfz hd;have w2:ae pr (X pr) 184 [sl 2 yv x.bm,aD d]=En (sl 2 yv v,Gb):=zg7 hv;have hy:(qw { x with bm:=v }).flat=(qw x).flat.set 3 (sl 2 yv v):=rfl;exact⟨_,by rw[qg (show pr.br 183=En ES from rfl) (by simp)];simp only[go_sem,seval,ES,ld,ld2,w,w2,hb]<;>rfl,HY cM (o:=3) M (by decide) hy Gb⟩
def Pp (l:ak bw)(i:Int):Option (ak bw):=gP l i Pq
theorem jpx {l i r}(h:Pp l i=En r):ae pr (X pr) 182 [sl 4 qw l,Iv i,.fn (.func 183) [] []]=En (sl 4 qw r,Ga):=
 jeq (fun n x y M hy=>zfb M hy) h
def Pr (e:aC)(x:bz):Option bz:=qa (ql (e.names.getD []) 1) fun n=>qa (ql (e.values.getD []) 1) fun b=>qa (f197 x.results ⟨n,x.version,b⟩) fun v=>En { x with results:=v }
theorem zf0 {l:List bz}{i:Nat}{x y e}(M:l[i]?=En x)(h:Pr e x=En y):
  ∃cs,ai pr (X pr) 196 [.ptr 0 (i*8),.aq (bK e)] [.cells (bU bI l)]=En (.aI [],Ga,[.cells cs])/\cs.map (·.1)=zi bI (l.set i y):=by
 unfold Pr at h;have ld:zm (bU bI l) (i*8+4) 1=En [sl 3 jb x.results]:=xq (o:=4) ez.len M (by decide);have ld2:zm (bU bI l) (i*8+2) 1=En [Iv x.version]:=xq (o:=2) ez.len M (by decide);have hb:i*8+4<(bU bI l).length:=L9 ez (o:=4) M (by decide);obtain⟨n,hn,h⟩:=qb h;obtain⟨b,F4,h⟩:=qb h;obtain⟨v,hv,h⟩:=qb h;cases h;have w:ae pr (X pr) 197 [sl 3 jb x.results,.agg [.str n,Iv x.version,Iv b]]=En (sl 3 jb v,Gb):=zey hv;have hy:(bI { x with results:=v }).flat=(bI x).flat.set 4 (sl 3 jb v):=rfl;exact⟨_,by rw[qg (show pr.br 196=En ET from rfl) (by simp)];simp only[go_sem,seval,ET,bK,jn hn,jn F4,ld,ld2,w,hb]<;>rfl,HY ez (o:=4) M (by decide) hy Gb⟩
def Xg (l:ak bz)(i:Int)(e:aC):Option (ak bz):=gP l i (Pr e)
theorem jla {l i e r}(h:Xg l i e=En r):ae pr (X pr) 192 [sl 8 bI l,Iv i,.fn (.func 196) [] [.aq (bK e)]]=En (sl 8 bI r,Ga):=
 HX (fun n x y M hy=>zf0 M hy) h
def GF (s:bG)(t:jk)(x:bz):Option bz:=qa (f194 x.uses s t) fun v=>En { x with uses:=v.1 }
theorem jxu {b0 b1 b2 b3:aM}{l:List bz}{i x y s t}(M:l[i]?=En x)(h:GF s t x=En y):
  ∃cs,ai pr (X pr) 193 [.ptr 5 (i*8),.ptr 4 0,.aq (.fn (.func 190) [] [.aq (jf t)])] [b0,b1,b2,b3,.cells [(.str s.k,Ga),(Iv s.n,Ga)],.cells (bU bI l)]=En (.aI [],Ga,[b0,b1,b2,b3,.cells [(.str s.k,Ga),(Iv s.n,Ga)],.cells cs])/\cs.map (·.1)=zi bI (l.set i y):=by
 unfold GF at h;have ld:zm (bU bI l) (i*8+3) 1=En [sl 2 bD x.uses]:=xq (o:=3) ez.len M (by decide);have hb:i*8+3<(bU bI l).length:=L9 ez (o:=3) M (by decide);obtain⟨v,hv,h⟩:=qb h;cases h;have w:ae pr (X pr) 194 [sl 2 bD x.uses,aN s,.fn (.func 190) [] [.aq (aL t)]]=En (sl 2 bD v.1,v.2):=zdp hv;rcases v with⟨v,o⟩;have hy:(bI { x with uses:=v }).flat=(bI x).flat.set 3 (sl 2 bD v):=rfl;have st:jx (bU bI l) (i*8+3) [sl 2 bD v]=En (bU bI (l.set i { x with uses:=v })):=nZ (o:=3) ez.len M (Gd rfl) (by simp only[Ix,go_sem,Ii]) rfl
 cases o with
 |true=>exact⟨_,by rw[qg (show pr.br 193=En uH from rfl) (by simp)];simp only[go_sem,seval,uH,jf,ld,w,hb]<;>rfl,HY ez (o:=3) M (by decide) hy Gb⟩|false=>exact⟨_,by rw[qg (show pr.br 193=En uH from rfl) (by simp)];simp only[go_sem,seval,uH,jf,ld,w,st]<;>rfl,z6⟩
end Go.Z
namespace Go.Z
open Go Go.Abs Go.W
def BZ {α:Type}(l:Option (List α))(i:Int)(x:α):Option (Option (List α)):=
 if(l.getD []).length<=1073741824/\0<=i/\i<(l.getD []).length then En (En ((l.getD []).set i.toNat x))else Ha
theorem qxj {α:Type}{l:Option (List α)}{i x r}(h:BZ l i x=En r):∃(n:Nat),i=(n:Int)/\(l.getD []).length<=1073741824/\n<(l.getD []).length/\r=En ((l.getD []).set n x):=by
 unfold BZ at h;split at h
 .rename_i hc;cases h;exact⟨i.toNat,(Int.toNat_of_nonneg hc.2.1).symm,hc.1,by omega,rfl⟩
 .cases h
section
variable {α:Type}{f:α->AVal}{sz:Nat}{h:qh}
theorem jf1 {l}:cellsOf ((l.map f).flatMap AVal.flat)=bU f l:=rfl
theorem qxs (E:rK f sz){n0 r b t l}(hl:(l.getD []).length<=1073741824)(hb:b<=4096){h'}(hh:aQ n0 h r (.cells (bU f (l.getD [])))=En h'):Cl n0 r sz b h (En t) (En (.list Ga sz [])) (En (sl sz f l))=En ⟨.ms (n0+r) 0 (l.getD []).length,Ga,En t,h'⟩:=by
 have G:yd sz (sl sz f l)=En ((l.getD []).map f):=Wp
 have Y:0<sz:=by have:=E.big;omega
 simp only[Cl];rw[G];simp only[Option.isSome_some,Ij,Ii,cond_true,Ik,If hl,If hb,Iy.mpr Y,jf1,hh]
theorem jag (E:rK f sz){l i y}(hi:i<l.length):jx (bU f l) (i*sz) (f y).flat=En (bU f (l.set i y)):=by
 have M:l[i]?=En l[i]:=List.getElem?_eq_getElem hi;have hl:=E.len l[i];have hly:=E.len y;have:=nZ (o:=0) (us:=(f y).flat) (y:=y) E.len M (by omega) (E.sc y) (by rw[I0,Iu,Io (by omega),Iz]);rw[Nat.add_zero]at this;exact this
end
def f220 (O:av)(J:Int)(x:jk):Option av:=qa (BZ O.ay J x) fun v=>En { O with ay:=v }
theorem j1u {O:av}{J:Int}{x r}(h:f220 O J x=En r):ae pr (X pr) 220 [aR O,Iv J,aL x]=En (aR r,Ga):=by
 obtain⟨v,hv,h⟩:=qb h;cases h;obtain⟨n,rfl,hl,hi,rfl⟩:=qxj hv
 have ap:Cl 2 0 5 56 [kR O.day O.ay O.ah O.units,kZ,.hole] (En 7) (En (.list Ga 5 [])) (En (sl 5 jf O.ay))=En ⟨.ms 2 0 (O.ay.getD []).length,Ga,En 7,[kR O.day O.ay O.ah O.units,kZ,.cells (bU jf (O.ay.getD []))]⟩:=by apply qxs gT<;>first|exact hl|rfl|decide
 have st:jx (bU jf (O.ay.getD [])) (n*5) [.str x.name,.str x.kind,Iv x.count,Iv x.left,.bool x.held]=En (bU jf ((O.ay.getD []).set n x)):=jag (y:=x) gT hi
 have this:ai pr (X pr) 220 [aR O,Iv (n:Int),aL x] []=En (.agg [Iv O.day,.ms 2 0 (O.ay.getD []).length,sl 4 qw O.ah,sl 8 bI O.units],Ga,[.cells [(Iv O.day,Ga),(.ms 2 0 (O.ay.getD []).length,Ga),(sl 4 qw O.ah,Ga),(sl 8 bI O.units,Ga)],.cells [(Iv O.day,Ga),(.ms 2 0 (O.ay.getD []).length,Ga),(sl 4 qw O.ah,Ga),(sl 8 bI O.units,Ga)],.cells (bU jf ((O.ay.getD []).set n x))]):=by
  rw[qg (show pr.br 220=En EU from rfl) (by simp)];simp only[go_sem,seval,EU,ap,wN hi,st]<;>rfl
 have fz:ku [.cells [(Iv O.day,Ga),(.ms 2 0 (O.ay.getD []).length,Ga),(sl 4 qw O.ah,Ga),(sl 8 bI O.units,Ga)],.cells [(Iv O.day,Ga),(.ms 2 0 (O.ay.getD []).length,Ga),(sl 4 qw O.ah,Ga),(sl 8 bI O.units,Ga)],.cells (bU jf ((O.ay.getD []).set n x))] (.ms 2 0 (O.ay.getD []).length)=En (sl 5 jf (En ((O.ay.getD []).set n x))):=by
  have:=wM gT (l:=(O.ay.getD []).set n x) (by rw[H2];omega) (cs:=bU jf ((O.ay.getD []).set n x)) z6;rw[H2]at this;exact this
 refine je rfl this (v':=.agg [Iv O.day,sl 5 jf (En ((O.ay.getD []).set n x)),sl 4 qw O.ah,sl 8 bI O.units]) ?_ (by first|rfl|simp only[go_sem,seval]);rw[Ww];simp only[go_sem,seval,fz]<;>rfl
def f219 (O:av)(J:Int)(x:bw):Option av:=qa (BZ O.ah J x) fun v=>En { O with ah:=v }
theorem ze8 {O:av}{J:Int}{x r}(h:f219 O J x=En r):ae pr (X pr) 219 [aR O,Iv J,aP x]=En (aR r,Ga):=by
 obtain⟨v,hv,h⟩:=qb h;cases h;obtain⟨n,rfl,hl,hi,rfl⟩:=qxj hv
 have ap:Cl 2 0 4 88 [kR O.day O.ay O.ah O.units,kZ,.hole] (En 7) (En (.list Ga 4 [])) (En (sl 4 qw O.ah))=En ⟨.ms 2 0 (O.ah.getD []).length,Ga,En 7,[kR O.day O.ay O.ah O.units,kZ,.cells (bU qw (O.ah.getD []))]⟩:=by apply qxs cM<;>first|exact hl|rfl|decide
 have st:jx (bU qw (O.ah.getD [])) (n*4) [.str x.name,sl 2 bD x.dn,sl 3 jb x.dt,sl 2 yv x.bm]=En (bU qw ((O.ah.getD []).set n x)):=jag (y:=x) cM hi
 have this:ai pr (X pr) 219 [aR O,Iv (n:Int),aP x] []=En (.agg [Iv O.day,sl 5 jf O.ay,.ms 2 0 (O.ah.getD []).length,sl 8 bI O.units],Ga,[.cells [(Iv O.day,Ga),(sl 5 jf O.ay,Ga),(.ms 2 0 (O.ah.getD []).length,Ga),(sl 8 bI O.units,Ga)],.cells [(Iv O.day,Ga),(sl 5 jf O.ay,Ga),(.ms 2 0 (O.ah.getD []).length,Ga),(sl 8 bI O.units,Ga)],.cells (bU qw ((O.ah.getD []).set n x))]):=by
  rw[qg (show pr.br 219=En EV from rfl) (by simp)];simp only[go_sem,seval,EV,ap,wN hi,st]<;>rfl
 have fz:ku [.cells [(Iv O.day,Ga),(sl 5 jf O.ay,Ga),(.ms 2 0 (O.ah.getD []).length,Ga),(sl 8 bI O.units,Ga)],.cells [(Iv O.day,Ga),(sl 5 jf O.ay,Ga),(.ms 2 0 (O.ah.getD []).length,Ga),(sl 8 bI O.units,Ga)],.cells (bU qw ((O.ah.getD []).set n x))] (.ms 2 0 (O.ah.getD []).length)=En (sl 4 qw (En ((O.ah.getD []).set n x))):=by
  have:=wM cM (l:=(O.ah.getD []).set n x) (by rw[H2];omega) (cs:=bU qw ((O.ah.getD []).set n x)) z6;rw[H2]at this;exact this
 refine je rfl this (v':=.agg [Iv O.day,sl 5 jf O.ay,sl 4 qw (En ((O.ah.getD []).set n x)),sl 8 bI O.units]) ?_ (by first|rfl|simp only[go_sem,seval]);rw[Ww];simp only[go_sem,seval,fz]<;>rfl
def f225 (O:av)(J:Int)(x:bz):Option av:=qa (BZ O.units J x) fun v=>En { O with units:=v }
theorem jmc {O:av}{J:Int}{x r}(h:f225 O J x=En r):ae pr (X pr) 225 [aR O,Iv J,aU x]=En (aR r,Ga):=by
 obtain⟨v,hv,h⟩:=qb h;cases h;obtain⟨n,rfl,hl,hi,rfl⟩:=qxj hv
 have ap:Cl 2 0 8 120 [kR O.day O.ay O.ah O.units,kZ,.hole] (En 7) (En (.list Ga 8 [])) (En (sl 8 bI O.units))=En ⟨.ms 2 0 (O.units.getD []).length,Ga,En 7,[kR O.day O.ay O.ah O.units,kZ,.cells (bU bI (O.units.getD []))]⟩:=by apply qxs ez<;>first|exact hl|rfl|decide
 have st:jx (bU bI (O.units.getD [])) (n*8) [.str x.name,.str x.product,Iv x.version,sl 2 bD x.uses,sl 3 jb x.results,.str x.partner,.bool x.ax,Iv x.au]=En (bU bI ((O.units.getD []).set n x)):=jag (y:=x) ez hi
 have this:ai pr (X pr) 225 [aR O,Iv (n:Int),aU x] []=En (.agg [Iv O.day,sl 5 jf O.ay,sl 4 qw O.ah,.ms 2 0 (O.units.getD []).length],Ga,[.cells [(Iv O.day,Ga),(sl 5 jf O.ay,Ga),(sl 4 qw O.ah,Ga),(.ms 2 0 (O.units.getD []).length,Ga)],.cells [(Iv O.day,Ga),(sl 5 jf O.ay,Ga),(sl 4 qw O.ah,Ga),(.ms 2 0 (O.units.getD []).length,Ga)],.cells (bU bI ((O.units.getD []).set n x))]):=by
  rw[qg (show pr.br 225=En EW from rfl) (by simp)];simp only[go_sem,seval,EW,ap,wN hi,st]<;>rfl
 have fz:ku [.cells [(Iv O.day,Ga),(sl 5 jf O.ay,Ga),(sl 4 qw O.ah,Ga),(.ms 2 0 (O.units.getD []).length,Ga)],.cells [(Iv O.day,Ga),(sl 5 jf O.ay,Ga),(sl 4 qw O.ah,Ga),(.ms 2 0 (O.units.getD []).length,Ga)],.cells (bU bI ((O.units.getD []).set n x))] (.ms 2 0 (O.units.getD []).length)=En (sl 8 bI (En ((O.units.getD []).set n x))):=by
  have:=wM ez (l:=(O.units.getD []).set n x) (by rw[H2];omega) (cs:=bU bI ((O.units.getD []).set n x)) z6;rw[H2]at this;exact this
 refine je rfl this (v':=.agg [Iv O.day,sl 5 jf O.ay,sl 4 qw O.ah,sl 8 bI (En ((O.units.getD []).set n x))]) ?_ (by first|rfl|simp only[go_sem,seval]);rw[Ww];simp only[go_sem,seval,fz]<;>rfl
end Go.Z
namespace Go.Z
open Go Go.Abs Go.W
def B0 (O:ak bG)(J:bG)(V:(ak bG)×Bool×Int×Bool):Option (((ak bG)×Bool×Int×Bool)⊕(((ak bG)×Bool×Bool×Int))):=
 cond (decide (V.2.2.1<((O.getD []).length:Int)))
  (qa (ql (O.getD []) V.2.2.1) fun v24=>
  cond (decide (v24.k=J.k))
   (cond (decide (0<J.n))
    (cond V.2.2.2
     (qa (bB V.1 [J]) fun dJ=>
     En (.inl (dJ,Gb,qd .i64 (V.2.2.1+1),Gb)))
     (cond V.1.isNone
      (qa (bB V.1 [J]) fun fG=>
      En (.inl (fG,Gb,qd .i64 (V.2.2.1+1),Gb)))
      (Ha)))
    (En (.inl (V.1,Gb,qd .i64 (V.2.2.1+1),V.2.2.2))))
   (cond V.2.2.2
    (qa (bB V.1 [v24]) fun uf=>
    En (.inl (uf,V.2.1,qd .i64 (V.2.2.1+1),Gb)))
    (cond V.1.isNone
     (qa (bB V.1 [v24]) fun oj=>
     En (.inl (oj,V.2.1,qd .i64 (V.2.2.1+1),Gb)))
     (Ha))))
  (En (.inr (V.1,V.2.2.2,V.2.1,V.2.2.1)))
def Tq (O:ak bG)(J:bG)(V:(ak bG)×Bool×Int×Bool):bg:=⟨[(0,sl 2 bD O,Ga),(3,.aq (aN J),Ga),(5,sl 2 bD V.1,V.2.2.2),(6,.bool V.2.1,Ga),(7,Iv V.2.2.1,Ga)],[]⟩
def Tr (O:ak bG)(J:bG)(d:((ak bG)×Bool×Bool×Int)):q9×bg:=(.exit 0,⟨[(0,sl 2 bD O,Ga),(3,.aq (aN J),Ga),(5,sl 2 bD d.1,d.2.1),(6,.bool d.2.2.1,Ga),(7,Iv d.2.2.2,Ga),(11,.bool Ga,Ga)],[]⟩)
theorem jyo (O:ak bG)(J:bG)(V:(ak bG)×Bool×Int×Bool)(r)(h:B0 O J V=En r):jo pr Ts (Tq O J) (Tr O J) V r:=by
 unfold B0 at h
 repeat' first|(replace h:=qb h;obtain⟨d,g,h⟩:=h;with_reducible first|replace g:=BM g|skip)|(replace h:=qc h;rcases h with⟨g,h⟩|⟨g,h⟩)
 all_goals (cases h<;>((first|refine qn ?_|refine jr ?_);simp only[go_sem,seval,Ts,Tq,ji,Tr, *]<;>rfl))
theorem j23 (O:ak bG)(J:bG){V d}(h:bd (B0 O J) V=En d):X pr (.loop Ts) (Tq O J V)=En (Tr O J d):=zz (jyo O J) h
def f217 (O:ak bG)(J:bG):Option ((ak bG)×Bool):=
 qa (bd (B0 O J) (Ha,Ga,0,Ga)) fun d40=>
 cond d40.2.2.1
  (En (d40.1,d40.2.1))
  (cond (decide (0<J.n))
   (cond d40.2.1
    (qa (bB d40.1 [J]) fun AJ=>
    En (AJ,Gb))
    (cond d40.1.isNone
     (qa (bB d40.1 [J]) fun Cx=>
     En (Cx,Gb))
     (Ha)))
   (En (d40.1,d40.2.1)))
theorem zjo {O J r}(h:f217 O J=En r):ae pr (X pr) 217 [sl 2 bD O,aN J]=En (sl 2 bD r.1,r.2):=by
 unfold f217 at h;refine yc EX ?_
 repeat' first|(replace h:=qb h;obtain⟨d,g,h⟩:=h;with_reducible first|replace g:=BM g|(replace g:=j23 O J g;dsimp only[Tq,Tr,zc]at g h)|skip)|(replace h:=qc h;rcases h with⟨g,h⟩|⟨g,h⟩)
 all_goals (cases h<;>(simp only[go_sem,seval,EX, *];exact⟨_,rfl⟩))
def B1 (O:ak jh)(J:jh)(V:(ak jh)×Bool×Int×Bool):Option (((ak jh)×Bool×Int×Bool)⊕(((ak jh)×Bool×Bool×Int))):=
 cond (decide (V.2.2.1<((O.getD []).length:Int)))
  (qa (ql (O.getD []) V.2.2.1) fun v22=>
  cond (decide (v22.k=J.k))
   (cond V.2.2.2
    (qa (bB V.1 [J]) fun v26=>
    En (.inl (v26,Gb,qd .i64 (V.2.2.1+1),Gb)))
    (cond V.1.isNone
     (qa (bB V.1 [J]) fun dJ=>
     En (.inl (dJ,Gb,qd .i64 (V.2.2.1+1),Gb)))
     (Ha)))
   (cond V.2.2.2
    (qa (bB V.1 [v22]) fun fG=>
    En (.inl (fG,V.2.1,qd .i64 (V.2.2.1+1),Gb)))
    (cond V.1.isNone
     (qa (bB V.1 [v22]) fun uf=>
     En (.inl (uf,V.2.1,qd .i64 (V.2.2.1+1),Gb)))
     (Ha))))
  (En (.inr (V.1,V.2.2.2,V.2.1,V.2.2.1)))
def Tt (O:ak jh)(J:jh)(V:(ak jh)×Bool×Int×Bool):bg:=⟨[(0,sl 3 jb O,Ga),(3,.aq (aT J),Ga),(5,sl 3 jb V.1,V.2.2.2),(6,.bool V.2.1,Ga),(7,Iv V.2.2.1,Ga)],[]⟩
def Tv (O:ak jh)(J:jh)(d:((ak jh)×Bool×Bool×Int)):q9×bg:=(.exit 0,⟨[(0,sl 3 jb O,Ga),(3,.aq (aT J),Ga),(5,sl 3 jb d.1,d.2.1),(6,.bool d.2.2.1,Ga),(7,Iv d.2.2.2,Ga),(11,.bool Ga,Ga)],[]⟩)
theorem j3j (O:ak jh)(J:jh)(V:(ak jh)×Bool×Int×Bool)(r)(h:B1 O J V=En r):jo pr Tw (Tt O J) (Tv O J) V r:=by
 unfold B1 at h
 repeat' first|(replace h:=qb h;obtain⟨d,g,h⟩:=h;with_reducible first|replace g:=Gm g|skip)|(replace h:=qc h;rcases h with⟨g,h⟩|⟨g,h⟩)
 all_goals (cases h<;>((first|refine qn ?_|refine jr ?_);simp only[go_sem,seval,Tw,Tt,ji,Tv, *]<;>rfl))
theorem jy5 (O:ak jh)(J:jh){V d}(h:bd (B1 O J) V=En d):X pr (.loop Tw) (Tt O J V)=En (Tv O J d):=zz (j3j O J) h
def f218 (O:ak jh)(J:jh):Option ((ak jh)×Bool):=
 qa (bd (B1 O J) (Ha,Ga,0,Ga)) fun d37=>
 cond d37.2.2.1
  (En (d37.1,d37.2.1))
  (cond d37.2.1
   (qa (bB d37.1 [J]) fun yA=>
   En (yA,Gb))
   (cond d37.1.isNone
    (qa (bB d37.1 [J]) fun rm=>
    En (rm,Gb))
    (Ha)))
theorem zdc {O J r}(h:f218 O J=En r):ae pr (X pr) 218 [sl 3 jb O,aT J]=En (sl 3 jb r.1,r.2):=by
 unfold f218 at h;refine yc EY ?_
 repeat' first|(replace h:=qb h;obtain⟨d,g,h⟩:=h;with_reducible first|replace g:=Gm g|(replace g:=jy5 O J g;dsimp only[Tt,Tv,zc]at g h)|skip)|(replace h:=qc h;rcases h with⟨g,h⟩|⟨g,h⟩)
 all_goals (cases h<;>(simp only[go_sem,seval,EY, *];exact⟨_,rfl⟩))
def B2 (O:ak bG)(J:aj)(a2:Int)(V:(ak bG)×Bool×Int×Bool):Option (((ak bG)×Bool×Int×Bool)⊕(((ak bG)×Bool×Bool×Int))):=
 cond (decide (V.2.2.1<((O.getD []).length:Int)))
  (qa (ql (O.getD []) V.2.2.1) fun v22=>
  cond (decide (v22.k=J))
   (cond V.2.2.2
    (qa (bB V.1 [⟨v22.k,qd .i64 (v22.n+a2)⟩]) fun v26=>
    En (.inl (v26,Gb,qd .i64 (V.2.2.1+1),Gb)))
    (cond V.1.isNone
     (qa (bB V.1 [⟨v22.k,qd .i64 (v22.n+a2)⟩]) fun dJ=>
     En (.inl (dJ,Gb,qd .i64 (V.2.2.1+1),Gb)))
     (Ha)))
   (cond V.2.2.2
    (qa (bB V.1 [v22]) fun fG=>
    En (.inl (fG,V.2.1,qd .i64 (V.2.2.1+1),Gb)))
    (cond V.1.isNone
     (qa (bB V.1 [v22]) fun uf=>
     En (.inl (uf,V.2.1,qd .i64 (V.2.2.1+1),Gb)))
     (Ha))))
  (En (.inr (V.1,V.2.2.2,V.2.1,V.2.2.1)))
def EZ (O:ak bG)(J:aj)(a2:Int)(V:(ak bG)×Bool×Int×Bool):bg:=⟨[(0,sl 2 bD O,Ga),(1,.str J,Ga),(2,Iv a2,Ga),(7,sl 2 bD V.1,V.2.2.2),(8,.bool V.2.1,Ga),(9,Iv V.2.2.1,Ga)],[]⟩
def Ma (O:ak bG)(J:aj)(a2:Int)(d:((ak bG)×Bool×Bool×Int)):q9×bg:=(.exit 0,⟨[(0,sl 2 bD O,Ga),(1,.str J,Ga),(2,Iv a2,Ga),(7,sl 2 bD d.1,d.2.1),(8,.bool d.2.2.1,Ga),(9,Iv d.2.2.2,Ga),(14,.bool Ga,Ga)],[]⟩)
theorem j0w (O:ak bG)(J:aj)(a2:Int)(V:(ak bG)×Bool×Int×Bool)(r)(h:B2 O J a2 V=En r):jo pr Mb (EZ O J a2) (Ma O J a2) V r:=by
 unfold B2 at h
 repeat' first|(replace h:=qb h;obtain⟨d,g,h⟩:=h;with_reducible first|replace g:=BM g|skip)|(replace h:=qc h;rcases h with⟨g,h⟩|⟨g,h⟩)
 all_goals (cases h<;>(first|(refine qn ?_;simp only[go_sem,seval,Mb,EZ,ji,Ma, *]<;>rfl)|(refine jcu ?_ rfl (by first|simp only[go_sem,seval,EZ]|rfl) (by first|simp only[go_sem,seval,EZ]|rfl);simp only[go_sem,seval,Mb,EZ,ji,Ma, *];exact⟨_,rfl⟩)))
theorem j0q (O:ak bG)(J:aj)(a2:Int){V d}(h:bd (B2 O J a2) V=En d):X pr (.loop Mb) (EZ O J a2 V)=En (Ma O J a2 d):=zz (j0w O J a2) h
def f262 (O:ak bG)(J:aj)(a2:Int):Option ((ak bG)×Bool):=
 qa (bd (B2 O J a2) (Ha,Ga,0,Ga)) fun d37=>
 cond d37.2.2.1
  (En (d37.1,d37.2.1))
  (cond d37.2.1
   (qa (bB d37.1 [⟨J,a2⟩]) fun yA=>
   En (yA,Gb))
   (cond d37.1.isNone
    (qa (bB d37.1 [⟨J,a2⟩]) fun rm=>
    En (rm,Gb))
    (Ha)))
theorem zkh {O J a2 r}(h:f262 O J a2=En r):ae pr (X pr) 262 [sl 2 bD O,.str J,Iv a2]=En (sl 2 bD r.1,r.2):=by
 unfold f262 at h;refine yc E0 ?_
 repeat' first|(replace h:=qb h;obtain⟨d,g,h⟩:=h;with_reducible first|replace g:=BM g|(replace g:=j0q O J a2 g;dsimp only[EZ,Ma,zc]at g h)|skip)|(replace h:=qc h;rcases h with⟨g,h⟩|⟨g,h⟩)
 all_goals (cases h<;>(simp only[go_sem,seval,E0, *];exact⟨_,rfl⟩))
def f152 (O:av)(J:aC):Option (av×Int):=
 qa (ql (J.names.getD []) 0) fun v1=>
 cond (decide (J.kind=([108,111,116]:aj)))
  (qa (f80 O v1) fun v4=>
  cond (decide (0<=v4))
   (En (O,9))
   (qa (ql (J.values.getD []) 1) fun v7=>
   qa (f151 v7 1 10000) fun v9=>
   cond v9
    (En (O,3))
    (cond (decide (64<=((O.ay.getD []).length:Int)))
     (En (O,5))
     (qa (bB (En []) (O.ay.getD [])) fun eS=>
     qa (ql (J.names.getD []) 1) fun dA=>
     qa (bB eS [⟨v1,dA,v7,v7,Ga⟩]) fun eF=>
     En (⟨O.day,eF,O.ah,O.units⟩,0)))))
  (cond (decide (J.kind=([112,114,111,100,117,99,116]:aj)))
   (qa (f82 O v1) fun v20=>
   cond (decide (0<=v20))
    (En (O,9))
    (cond (decide (16<=((O.ah.getD []).length:Int)))
     (En (O,5))
     (qa (bB (En []) (O.ah.getD [])) fun v24=>
     qa (bB v24 [⟨v1,Ha,Ha,Ha⟩]) fun v26=>
     En (⟨O.day,O.ay,v26,O.units⟩,0))))
   (qa (ql (J.names.getD []) 1) fun v28=>
   qa (f82 O v28) fun v30=>
   cond (decide (v30<0))
    (En (O,10))
    (qa (f83 O v1) fun l8=>
    cond (decide (0<=l8))
     (En (O,9))
     (qa (ql (O.ah.getD []) v30) fun jY=>
     cond (decide (((jY.bm.getD []).length:Int)=0))
      (En (O,32))
      (cond (decide (256<=((O.units.getD []).length:Int)))
       (En (O,5))
       (qa (bB (En []) (O.units.getD [])) fun v40=>
       qa (bB v40 [⟨v1,v28,((jY.bm.getD []).length:Int),Ha,Ha,[],Ga,0⟩]) fun wy=>
       En (⟨O.day,O.ay,O.ah,wy⟩,0)))))))
theorem zfn {O J r}(h:f152 O J=En r):ae pr (X pr) 152 [aR O,aE J]=En (.aI [aR r.1,Iv r.2],Ga):=by
 unfold f152 at h;refine jz E1 ?_
 repeat' first|(replace h:=qb h;obtain⟨d,g,h⟩:=h; (with_reducible first|replace g:=Hr g|replace g:=jln g|replace g:=LH g|replace g:=QX g|replace g:=WL g|replace g:=q7g g|replace g:=Pb g|skip);try dsimp only[zc,n6,Ig,zf,qx,jf,qw,bI,zw,bK,bD,jb,yv,aE,aR,aU,aL,aP,aD]at g)|(replace h:=qc h;rcases h with⟨g,h⟩|⟨g,h⟩)
 all_goals (cases h<;>(simp only[go_sem,seval,E1,ji,kr, *];exact⟨_,rfl⟩))
end Go.Z
namespace Go.Z
open Go Go.Abs Go.W
def B3 (J:aj)(dT:Int)(dL:aj)(yD:aj)(bp:Int)(bj:ak jk)(bf:ak bw)(aK:ak bz):Option (ak bw):=
 qa (f95 (⟨bp,bj,bf,aK⟩) J) fun v1=>
 qa (W4 bf v1 dT dL yD) fun v3=>
 En v3
theorem j5u {J dT dL yD bp bj bf aK x1 x2 x3 r}(h:B3 J dT dL yD bp bj bf aK=En r):ai pr (X pr) 173 [.ptr 0 0,.str J,.fn (.func 174) [] [.aq (Iv dT),.aq (.fn (.func 171) [] [.aq (.str dL)]),.aq (.str yD)]] [kR bp bj bf aK,x1,x2,x3]=En (.aI [],Ga,[kR bp bj r aK,x1,x2,x3]):=by
 unfold B3 at h;rw[qg (show pr.br 173=En uJ from rfl) (by simp)]
 repeat' first|(replace h:=qb h;obtain⟨d,g,h⟩:=h;with_reducible first|replace g:=sJ g|replace g:=jor g|skip)|(replace h:=qc h;rcases h with⟨g,h⟩|⟨g,h⟩)
 all_goals (cases h<;>(simp only[go_sem,seval,uJ, *]<;>rfl))
def GD (J:aj)(dT:jh)(dL:jh)(bp:Int)(bj:ak jk)(bf:ak bw)(aK:ak bz):Option (ak bw):=
 qa (f95 (⟨bp,bj,bf,aK⟩) J) fun v1=>
 qa (W7 bf v1 dT dL) fun v3=>
 En v3
theorem j9x {J dT dL bp bj bf aK x1 x2 x3 r}(h:GD J dT dL bp bj bf aK=En r):ai pr (X pr) 173 [.ptr 0 0,.str J,.fn (.func 180) [] [.aq (aT dT),.aq (.fn (.func 178) [] [.aq (aT dL)])]] [kR bp bj bf aK,x1,x2,x3]=En (.aI [],Ga,[kR bp bj r aK,x1,x2,x3]):=by
 unfold GD at h;obtain⟨v1,I,h⟩:=qb h;have lC:ae pr (X pr) 95 [aG bp bj bf aK,.str J]=En (Iv v1,Ga):=sJ I;obtain⟨v3,h4,h⟩:=qb h;have rF:ae pr (X pr) 182 [sl 4 qw bf,Iv v1,.fn (.func 229) [] [.aq (.fn (.func 180) [] [.aq (aT dT),.aq (.fn (.func 178) [] [.aq (aT dL)])])]]=En (sl 4 qw v3,Ga):=jmk h4;have Q:v3=r:=En.inj h;subst Q;rw[qg (show pr.br 173=En uJ from rfl) (by simp)];simp only[go_sem,seval,uJ,lC,rF]<;>rfl
def f106 (J:aC)(bp:Int)(bj:ak jk)(bf:ak bw)(aK:ak bz):Option (Int×(ak jk)×Bool):=
 qa (ql (J.names.getD []) 0) fun v1=>
 qa (f58 (⟨bp,bj,bf,aK⟩) v1) fun v3=>
 qa (f36 (decide (0<=v3)) 9) fun v5=>
 qa (ql (J.values.getD []) 1) fun v7=>
 qa (f124 v7 1 10000) fun v9=>
 qa (f36 (decide (64<=((bj.getD []).length:Int))) 5) fun v11=>
 qa (f35 (En [v5,v9,v11])) fun eS=>
 cond (decide (eS=0))
  (qa (ql (J.names.getD []) 1) fun dK=>
  qa (f169 bj (⟨v1,dK,v7,v7,Ga⟩)) fun eE=>
  En (0,eE,Gb))
  (En (eS,bj,Ga))
theorem zgr {J bp bj bf aK x1 x2 x3 r}(h:f106 J bp bj bf aK=En r):ai pr (X pr) 106 [.ptr 0 0,aE J] [kR bp bj bf aK,x1,x2,x3]=En (Iv r.1,Ga,[kS bp r.2.1 r.2.2 bf Ga aK Ga,x1,x2,x3]):=by
 unfold f106 at h;rw[qg (show pr.br 106=En E2 from rfl) (by simp)]
 repeat' first|(replace h:=qb h;obtain⟨d,g,h⟩:=h; (with_reducible first|replace g:=Dk g|replace g:=dI g|replace g:=Rr g|replace g:=gC g|replace g:=zj7 g|skip);try dsimp only[zc,n6,Ig,zf,qx,jf,qw,bI,zw,bK,bD,jb,yv,aE,aR,aU,aL,aP,aD]at g)|(replace h:=qc h;rcases h with⟨g,h⟩|⟨g,h⟩)
 all_goals (cases h<;>(simp only[go_sem,seval,E2,ji, *]<;>rfl))
def f107 (J:aC)(bp:Int)(bj:ak jk)(bf:ak bw)(aK:ak bz):Option (Int×(ak bw)×Bool):=
 qa (ql (J.names.getD []) 0) fun v1=>
 qa (f95 (⟨bp,bj,bf,aK⟩) v1) fun v3=>
 qa (f36 (decide (0<=v3)) 9) fun v5=>
 qa (f36 (decide (16<=((bf.getD []).length:Int))) 5) fun v7=>
 qa (f35 (En [v5,v7])) fun v9=>
 cond (decide (v9=0))
  (qa (f170 bf (⟨v1,Ha,Ha,Ha⟩)) fun v12=>
  En (0,v12,Gb))
  (En (v9,bf,Ga))
theorem zgs {J bp bj bf aK x1 x2 x3 r}(h:f107 J bp bj bf aK=En r):ai pr (X pr) 107 [.ptr 0 0,aE J] [kR bp bj bf aK,x1,x2,x3]=En (Iv r.1,Ga,[kS bp bj Ga r.2.1 r.2.2 aK Ga,x1,x2,x3]):=by
 unfold f107 at h;rw[qg (show pr.br 107=En E3 from rfl) (by simp)]
 repeat' first|(replace h:=qb h;obtain⟨d,g,h⟩:=h; (with_reducible first|replace g:=sJ g|replace g:=dI g|replace g:=gC g|replace g:=zk7 g|skip);try dsimp only[zc,n6,Ig,zf,qx,jf,qw,bI,zw,bK,bD,jb,yv,aE,aR,aU,aL,aP,aD]at g)|(replace h:=qc h;rcases h with⟨g,h⟩|⟨g,h⟩)
 all_goals (cases h<;>(simp only[go_sem,seval,E3,ji, *]<;>rfl))
def f108 (J:aC)(bp:Int)(bj:ak jk)(bf:ak bw)(aK:ak bz):Option (Int×(ak bw)):=
 qa (ql (J.names.getD []) 1) fun v1=>
 qa (ql (J.values.getD []) 1) fun v3=>
 qa (ql (J.names.getD []) 0) fun v5=>
 qa (f95 (⟨bp,bj,bf,aK⟩) v5) fun v7=>
 qa (ql (bf.getD []) v7) fun v9=>
 qa (f124 v3 0 10000) fun v11=>
 cond (decide (0<v3))
  (qa (Kk v9.dn v1) fun da=>
  cond da
   (qa (f36 Ga 5) fun eF=>
   qa (f35 (En [v11,eF])) fun ey=>
   cond (decide (ey=0))
    (qa (B3 v5 v3 v1 v1 bp bj bf aK) fun v22=>
    En (0,v22))
    (En (ey,bf)))
   (qa (f36 (decide (16<=((v9.dn.getD []).length:Int))) 5) fun v24=>
   qa (f35 (En [v11,v24])) fun v26=>
   cond (decide (v26=0))
    (qa (B3 v5 v3 v1 v1 bp bj bf aK) fun dJ=>
    En (0,dJ))
    (En (v26,bf))))
  (qa (f36 Ga 5) fun v31=>
  qa (f35 (En [v11,v31])) fun l8=>
  cond (decide (l8=0))
   (qa (B3 v5 v3 v1 v1 bp bj bf aK) fun jY=>
   En (0,jY))
   (En (l8,bf)))
theorem zko {J bp bj bf aK x1 x2 x3 r}(h:f108 J bp bj bf aK=En r):ai pr (X pr) 108 [.ptr 0 0,aE J] [kR bp bj bf aK,x1,x2,x3]=En (Iv r.1,Ga,[kR bp bj r.2 aK,x1,x2,x3]):=by
 unfold f108 at h;rw[qg (show pr.br 108=En E4 from rfl) (by simp)]
 repeat' first|(replace h:=qb h;obtain⟨d,g,h⟩:=h; (with_reducible first|replace g:=sJ g|replace g:=Rr g|replace g:=j5i g|replace g:=dI g|replace g:=gC g|replace g:=j5u (x1:=x1) (x2:=x2) (x3:=x3) g|skip);try dsimp only[zc,n6,Ig,zf,qx,jf,qw,bI,zw,bK,bD,jb,yv,aE,aR,aU,aL,aP,aD]at g)|(replace h:=qc h;rcases h with⟨g,h⟩|⟨g,h⟩)
 all_goals (cases h<;>(simp only[go_sem,seval,E4,ji, *]<;>rfl))
def f109 (J:aC)(bp:Int)(bj:ak jk)(bf:ak bw)(aK:ak bz):Option (Int×(ak bw)):=
 qa (ql (J.names.getD []) 1) fun v1=>
 qa (ql (J.values.getD []) 1) fun v3=>
 qa (ql (J.values.getD []) 2) fun v5=>
 qa (ql (J.names.getD []) 0) fun v7=>
 qa (f95 (⟨bp,bj,bf,aK⟩) v7) fun v9=>
 qa (ql (bf.getD []) v9) fun v11=>
 qa (f36 (decide (v5<v3)) 11) fun eS=>
 qa (Ko v11.dt (⟨v1,v3,v5⟩)) fun dA=>
 cond dA
  (qa (f36 Ga 5) fun eE=>
  qa (f35 (En [eS,eE])) fun v20=>
  cond (decide (v20=0))
   (qa (GD v7 (⟨v1,v3,v5⟩) (⟨v1,v3,v5⟩) bp bj bf aK) fun v23=>
   En (0,v23))
   (En (v20,bf)))
  (qa (f36 (decide (16<=((v11.dt.getD []).length:Int))) 5) fun v25=>
  qa (f35 (En [eS,v25])) fun nD=>
  cond (decide (nD=0))
   (qa (GD v7 (⟨v1,v3,v5⟩) (⟨v1,v3,v5⟩) bp bj bf aK) fun v30=>
   En (0,v30))
   (En (nD,bf)))
theorem zfd {J bp bj bf aK x1 x2 x3 r}(h:f109 J bp bj bf aK=En r):ai pr (X pr) 109 [.ptr 0 0,aE J] [kR bp bj bf aK,x1,x2,x3]=En (Iv r.1,Ga,[kR bp bj r.2 aK,x1,x2,x3]):=by
 unfold f109 at h;rw[qg (show pr.br 109=En E6 from rfl) (by simp)]
 repeat' first|(replace h:=qb h;obtain⟨d,g,h⟩:=h; (with_reducible first|replace g:=sJ g|replace g:=dI g|replace g:=j7q g|replace g:=gC g|replace g:=j9x (x1:=x1) (x2:=x2) (x3:=x3) g|skip);try dsimp only[zc,n6,Ig,zf,qx,jf,qw,bI,zw,bK,bD,jb,yv,aE,aR,aU,aL,aP,aD]at g)|(replace h:=qc h;rcases h with⟨g,h⟩|⟨g,h⟩)
 all_goals (cases h<;>(simp only[go_sem,seval,E6,ji, *]<;>rfl))
def f110 (J:aC)(bp:Int)(bj:ak jk)(bf:ak bw)(aK:ak bz):Option (Int×(ak bw)):=
 qa (ql (J.names.getD []) 0) fun v1=>
 qa (f95 (⟨bp,bj,bf,aK⟩) v1) fun v3=>
 qa (ql (bf.getD []) v3) fun v5=>
 qa (f36 (decide (((v5.dn.getD []).length:Int)=0)) 12) fun v7=>
 qa (f36 (decide (100<=((v5.bm.getD []).length:Int))) 5) fun v9=>
 qa (f35 (En [v7,v9])) fun v11=>
 cond (decide (v11=0))
  (qa (Pp bf v3) fun da=>
  En (0,da))
  (En (v11,bf))
theorem zhj {J bp bj bf aK x1 x2 x3 r}(h:f110 J bp bj bf aK=En r):ai pr (X pr) 110 [.ptr 0 0,aE J] [kR bp bj bf aK,x1,x2,x3]=En (Iv r.1,Ga,[kR bp bj r.2 aK,x1,x2,x3]):=by
 unfold f110 at h;rw[qg (show pr.br 110=En E7 from rfl) (by simp)]
 repeat' first|(replace h:=qb h;obtain⟨d,g,h⟩:=h; (with_reducible first|replace g:=sJ g|replace g:=dI g|replace g:=gC g|replace g:=jpx g|skip);try dsimp only[zc,n6,Ig,zf,qx,jf,qw,bI,zw,bK,bD,jb,yv,aE,aR,aU,aL,aP,aD]at g)|(replace h:=qc h;rcases h with⟨g,h⟩|⟨g,h⟩)
 all_goals (cases h<;>(simp only[go_sem,seval,E7,ji, *]<;>rfl))
def f111 (J:aC)(bp:Int)(bj:ak jk)(bf:ak bw)(aK:ak bz):Option (Int×(ak bz)×Bool):=
 qa (ql (J.names.getD []) 1) fun v1=>
 qa (f95 (⟨bp,bj,bf,aK⟩) v1) fun v3=>
 qa (ql (bf.getD []) v3) fun v5=>
 qa (f96 v5) fun v7=>
 qa (ql (J.names.getD []) 0) fun v9=>
 qa (f69 (⟨bp,bj,bf,aK⟩) v9) fun v11=>
 qa (f36 (decide (0<=v11)) 9) fun eS=>
 qa (f36 (decide (v7=0)) 32) fun dA=>
 qa (f36 (decide (256<=((aK.getD []).length:Int))) 5) fun eF=>
 qa (f35 (En [eS,dA,eF])) fun ey=>
 cond (decide (ey=0))
  (qa (f186 aK (⟨v9,v1,v7,Ha,Ha,[],Ga,0⟩)) fun v22=>
  En (0,v22,Gb))
  (En (ey,aK,Ga))
theorem zi6 {J bp bj bf aK x1 x2 x3 r}(h:f111 J bp bj bf aK=En r):ai pr (X pr) 111 [.ptr 0 0,aE J] [kR bp bj bf aK,x1,x2,x3]=En (Iv r.1,Ga,[kS bp bj Ga bf Ga r.2.1 r.2.2,x1,x2,x3]):=by
 unfold f111 at h;rw[qg (show pr.br 111=En E8 from rfl) (by simp)]
 repeat' first|(replace h:=qb h;obtain⟨d,g,h⟩:=h; (with_reducible first|replace g:=sJ g|replace g:=W96 g|replace g:=uo g|replace g:=dI g|replace g:=gC g|replace g:=zfy g|skip);try dsimp only[zc,n6,Ig,zf,qx,jf,qw,bI,zw,bK,bD,jb,yv,aE,aR,aU,aL,aP,aD]at g)|(replace h:=qc h;rcases h with⟨g,h⟩|⟨g,h⟩)
 all_goals (cases h<;>(simp only[go_sem,seval,E8,ji, *]<;>rfl))
def f113 (J:aC)(bp:Int)(bj:ak jk)(bf:ak bw)(aK:ak bz):Option (Int×(ak bz)):=
 qa (ql (J.names.getD []) 0) fun v1=>
 qa (f69 (⟨bp,bj,bf,aK⟩) v1) fun v3=>
 qa (ql (aK.getD []) v3) fun v5=>
 qa (f161 (⟨bp,bj,bf,aK⟩) v5) fun v7=>
 qa (Kp v7.aS J) fun v9=>
 qa (f36 v5.ax 21) fun v11=>
 qa (f36 (!v9) 7) fun eS=>
 qa (f36 (decide (64<=((v5.results.getD []).length:Int))) 5) fun dA=>
 qa (f35 (En [v11,eS,dA])) fun eF=>
 cond (decide (eF=0))
  (qa (Xg aK v3 J) fun v20=>
  En (0,v20))
  (En (eF,aK))
theorem zdf {J bp bj bf aK x1 x2 x3 r}(h:f113 J bp bj bf aK=En r):ai pr (X pr) 113 [.ptr 0 0,aE J] [kR bp bj bf aK,x1,x2,x3]=En (Iv r.1,Ga,[kR bp bj bf r.2,x1,x2,x3]):=by
 unfold f113 at h;rw[qg (show pr.br 113=En E9 from rfl) (by simp)]
 repeat' first|(replace h:=qb h;obtain⟨d,g,h⟩:=h; (with_reducible first|replace g:=uo g|replace g:=Sx g|replace g:=j9a g|replace g:=dI g|replace g:=gC g|replace g:=jla g|skip);try dsimp only[zc,n6,Ig,zf,qx,jf,qw,bI,zw,bK,bD,jb,yv,aE,aR,aU,aL,aP,aD]at g)|(replace h:=qc h;rcases h with⟨g,h⟩|⟨g,h⟩)
 all_goals (cases h<;>(simp only[go_sem,seval,E9,ji, *]<;>rfl))
def f114 (J:aC)(bp:Int)(bj:ak jk)(bf:ak bw)(aK:ak bz):Option (Int×(ak bz)):=
 qa (ql (J.names.getD []) 0) fun v1=>
 qa (f69 (⟨bp,bj,bf,aK⟩) v1) fun v3=>
 qa (ql (aK.getD []) v3) fun v5=>
 qa (f198 (⟨bp,bj,bf,aK⟩) v5) fun v7=>
 qa (f36 v5.ax 21) fun v9=>
 qa (f36 (decide (v5.version=v7)) 32) fun v11=>
 qa (f35 (En [v9,v11])) fun eS=>
 cond (decide (eS=0))
  (qa (Xd aK v3 v7) fun dK=>
  En (0,dK))
  (En (eS,aK))
theorem zi8 {J bp bj bf aK x1 x2 x3 r}(h:f114 J bp bj bf aK=En r):ai pr (X pr) 114 [.ptr 0 0,aE J] [kR bp bj bf aK,x1,x2,x3]=En (Iv r.1,Ga,[kR bp bj bf r.2,x1,x2,x3]):=by
 unfold f114 at h;rw[qg (show pr.br 114=En Fc from rfl) (by simp)]
 repeat' first|(replace h:=qb h;obtain⟨d,g,h⟩:=h; (with_reducible first|replace g:=uo g|replace g:=jzu g|replace g:=dI g|replace g:=gC g|replace g:=jow g|skip);try dsimp only[zc,n6,Ig,zf,qx,jf,qw,bI,zw,bK,bD,jb,yv,aE,aR,aU,aL,aP,aD]at g)|(replace h:=qc h;rcases h with⟨g,h⟩|⟨g,h⟩)
 all_goals (cases h<;>(simp only[go_sem,seval,Fc,ji, *]<;>rfl))
def f115 (J:aC)(bp:Int)(bj:ak jk)(bf:ak bw)(aK:ak bz):Option (Int×(ak bz)):=
 qa (ql (J.names.getD []) 0) fun v1=>
 qa (f69 (⟨bp,bj,bf,aK⟩) v1) fun v3=>
 qa (ql (J.names.getD []) 1) fun v5=>
 qa (f69 (⟨bp,bj,bf,aK⟩) v5) fun v7=>
 qa (ql (aK.getD []) v3) fun v9=>
 qa (ql (aK.getD []) v7) fun v11=>
 qa (f36 (decide (v3=v7)) 9) fun eS=>
 cond (decide (v9.product=v11.product))
  (qa (f36 (!decide (v9.version=v11.version)) 30) fun dK=>
  cond v9.ax
   (qa (f36 Gb 21) fun ey=>
   cond (decide (v9.partner=[]))
    (qa (f36 (!decide (v11.partner=[])) 35) fun v22=>
    qa (f35 (En [eS,dK,ey,v22])) fun v24=>
    cond (decide (v24=0))
     (qa (vT aK v3 v11) fun nD=>
     qa (vU nD v7 (⟨v9.name,v9.product,v9.version,v9.uses,v9.results,v9.partner,Gb,v9.au⟩)) fun dJ=>
     En (0,dJ))
     (En (v24,aK)))
    (qa (f36 Gb 35) fun v31=>
    qa (f35 (En [eS,dK,ey,v31])) fun l8=>
    cond (decide (l8=0))
     (qa (vT aK v3 v11) fun jY=>
     qa (vU jY v7 (⟨v9.name,v9.product,v9.version,v9.uses,v9.results,v9.partner,Gb,v9.au⟩)) fun oj=>
     En (0,oj))
     (En (l8,aK))))
   (qa (f36 v11.ax 21) fun v40=>
   cond (decide (v9.partner=[]))
    (qa (f36 (!decide (v11.partner=[])) 35) fun Cw=>
    qa (f35 (En [eS,dK,v40,Cw])) fun AJ=>
    cond (decide (AJ=0))
     (qa (vT aK v3 v11) fun Cx=>
     qa (vU Cx v7 (⟨v9.name,v9.product,v9.version,v9.uses,v9.results,v9.partner,Ga,v9.au⟩)) fun v50=>
     En (0,v50))
     (En (AJ,aK)))
    (qa (f36 Gb 35) fun ZS=>
    qa (f35 (En [eS,dK,v40,ZS])) fun wD=>
    cond (decide (wD=0))
     (qa (vT aK v3 v11) fun Tx=>
     qa (vU Tx v7 (⟨v9.name,v9.product,v9.version,v9.uses,v9.results,v9.partner,Ga,v9.au⟩)) fun v59=>
     En (0,v59))
     (En (wD,aK)))))
  (qa (f36 Gb 30) fun Hq=>
  cond v9.ax
   (qa (f36 Gb 21) fun v64=>
   cond (decide (v9.partner=[]))
    (qa (f36 (!decide (v11.partner=[])) 35) fun v67=>
    qa (f35 (En [eS,Hq,v64,v67])) fun v69=>
    cond (decide (v69=0))
     (qa (vT aK v3 v11) fun v72=>
     qa (vU v72 v7 (⟨v9.name,v9.product,v9.version,v9.uses,v9.results,v9.partner,Gb,v9.au⟩)) fun v74=>
     En (0,v74))
     (En (v69,aK)))
    (qa (f36 Gb 35) fun v76=>
    qa (f35 (En [eS,Hq,v64,v76])) fun v78=>
    cond (decide (v78=0))
     (qa (vT aK v3 v11) fun v81=>
     qa (vU v81 v7 (⟨v9.name,v9.product,v9.version,v9.uses,v9.results,v9.partner,Gb,v9.au⟩)) fun v83=>
     En (0,v83))
     (En (v78,aK))))
   (qa (f36 v11.ax 21) fun v85=>
   cond (decide (v9.partner=[]))
    (qa (f36 (!decide (v11.partner=[])) 35) fun v88=>
    qa (f35 (En [eS,Hq,v85,v88])) fun Ty=>
    cond (decide (Ty=0))
     (qa (vT aK v3 v11) fun v93=>
     qa (vU v93 v7 (⟨v9.name,v9.product,v9.version,v9.uses,v9.results,v9.partner,Ga,v9.au⟩)) fun Lz=>
     En (0,Lz))
     (En (Ty,aK)))
    (qa (f36 Gb 35) fun v97=>
    qa (f35 (En [eS,Hq,v85,v97])) fun CY=>
    cond (decide (CY=0))
     (qa (vT aK v3 v11) fun v102=>
     qa (vU v102 v7 (⟨v9.name,v9.product,v9.version,v9.uses,v9.results,v9.partner,Ga,v9.au⟩)) fun C4=>
     En (0,C4))
     (En (CY,aK)))))
theorem zj0 {J bp bj bf aK x1 x2 x3 r}(h:f115 J bp bj bf aK=En r):ai pr (X pr) 115 [.ptr 0 0,aE J] [kR bp bj bf aK,x1,x2,x3]=En (Iv r.1,Ga,[kR bp bj bf r.2,x1,x2,x3]):=by
 unfold f115 at h;rw[qg (show pr.br 115=En Fe from rfl) (by simp)]
 repeat' first|(replace h:=qb h;obtain⟨d,g,h⟩:=h; (with_reducible first|replace g:=uo g|replace g:=dI g|replace g:=gC g|replace g:=jmx g|replace g:=jly g|skip);try dsimp only[zc,n6,Ig,zf,qx,jf,qw,bI,zw,bK,bD,jb,yv,aE,aR,aU,aL,aP,aD]at g)|(replace h:=qc h;rcases h with⟨g,h⟩|⟨g,h⟩)
 all_goals (cases h<;>(simp only[go_sem,seval,Fe,ji, *]<;>rfl))
def f116 (J:aC)(bp:Int)(bj:ak jk)(bf:ak bw)(aK:ak bz):Option (Int×(ak jk)):=
 qa (ql (J.names.getD []) 0) fun v1=>
 qa (f58 (⟨bp,bj,bf,aK⟩) v1) fun v3=>
 qa (ql (bj.getD []) v3) fun v5=>
 cond v5.held
  (En (34,bj))
  (qa (Xa bj v3) fun v8=>
  En (0,v8))
theorem zkp {J bp bj bf aK x1 x2 x3 r}(h:f116 J bp bj bf aK=En r):ai pr (X pr) 116 [.ptr 0 0,aE J] [kR bp bj bf aK,x1,x2,x3]=En (Iv r.1,Ga,[kR bp r.2 bf aK,x1,x2,x3]):=by
 unfold f116 at h;rw[qg (show pr.br 116=En Ff from rfl) (by simp)]
 repeat' first|(replace h:=qb h;obtain⟨d,g,h⟩:=h;with_reducible first|replace g:=Dk g|replace g:=jlc g|skip)|(replace h:=qc h;rcases h with⟨g,h⟩|⟨g,h⟩)
 all_goals (cases h<;>(simp only[go_sem,seval,Ff,ji, *]<;>rfl))
def f117 (J:aC)(bp:Int)(bj:ak jk)(bf:ak bw)(aK:ak bz):Option (Int×(ak jk)):=
 qa (ql (J.names.getD []) 0) fun v1=>
 qa (f58 (⟨bp,bj,bf,aK⟩) v1) fun v3=>
 qa (ql (bj.getD []) v3) fun v5=>
 cond v5.held
  (qa (Xb bj v3) fun v8=>
  En (0,v8))
  (En (20,bj))
theorem zdl {J bp bj bf aK x1 x2 x3 r}(h:f117 J bp bj bf aK=En r):ai pr (X pr) 117 [.ptr 0 0,aE J] [kR bp bj bf aK,x1,x2,x3]=En (Iv r.1,Ga,[kR bp r.2 bf aK,x1,x2,x3]):=by
 unfold f117 at h;rw[qg (show pr.br 117=En Fg from rfl) (by simp)]
 repeat' first|(replace h:=qb h;obtain⟨d,g,h⟩:=h;with_reducible first|replace g:=Dk g|replace g:=jp5 g|skip)|(replace h:=qc h;rcases h with⟨g,h⟩|⟨g,h⟩)
 all_goals (cases h<;>(simp only[go_sem,seval,Fg,ji, *]<;>rfl))
def f119 (J:aC)(bp:Int)(bj:ak jk)(bf:ak bw)(aK:ak bz):Option (Int×(ak bz)):=
 qa (ql (J.names.getD []) 0) fun v1=>
 qa (f69 (⟨bp,bj,bf,aK⟩) v1) fun v3=>
 qa (ql (aK.getD []) v3) fun v5=>
 cond v5.ax
  (qa (Xf aK v3) fun v8=>
  En (0,v8))
  (En (20,aK))
theorem zjv {J bp bj bf aK x1 x2 x3 r}(h:f119 J bp bj bf aK=En r):ai pr (X pr) 119 [.ptr 0 0,aE J] [kR bp bj bf aK,x1,x2,x3]=En (Iv r.1,Ga,[kR bp bj bf r.2,x1,x2,x3]):=by
 unfold f119 at h;rw[qg (show pr.br 119=En Fh from rfl) (by simp)]
 repeat' first|(replace h:=qb h;obtain⟨d,g,h⟩:=h;with_reducible first|replace g:=uo g|replace g:=jnr g|skip)|(replace h:=qc h;rcases h with⟨g,h⟩|⟨g,h⟩)
 all_goals (cases h<;>(simp only[go_sem,seval,Fh,ji, *]<;>rfl))
end Go.Z
namespace Go.Z
open Go Go.Abs Go.W
def f112 (J:aC)(bp:Int)(bj:ak jk)(bf:ak bw)(aK:ak bz):Option (Int×(ak jk)×(ak bz)):=
 qa (ql (J.names.getD []) 0) fun v1=>
 qa (f69 (⟨bp,bj,bf,aK⟩) v1) fun v3=>
 qa (ql (J.names.getD []) 1) fun v5=>
 qa (f58 (⟨bp,bj,bf,aK⟩) v5) fun v7=>
 qa (ql (J.values.getD []) 1) fun v9=>
 qa (ql (aK.getD []) v3) fun v11=>
 qa (ql (bj.getD []) v7) fun eS=>
 qa (f161 (⟨bp,bj,bf,aK⟩) v11) fun dA=>
 qa (Km dA.bh eS) fun eF=>
 qa (f36 v11.ax 21) fun ey=>
 qa (f36 (decide (v9=0)) 3) fun v21=>
 qa (f36 eS.held 34) fun v23=>
 qa (f36 (!eF) 7) fun v25=>
 qa (f36 (decide (eS.left<v9)) 4) fun nD=>
 qa (f35 (En [ey,v21,v23,v25,nD])) fun dJ=>
 cond (decide (dJ=0))
  (qa (Xh bj v7 v9) fun fG=>
  qa (f191 v11.uses eS) fun kQ=>
  cond (decide (0<=kQ))
   (qa (ql (v11.uses.getD []) kQ) fun v37=>
   qa (gP aK v3 (GF ⟨eS.name,qd .i64 (v9+v37.n)⟩ eS)) fun us=>En (dJ,fG,us))
   (qa (gP aK v3 (GF ⟨eS.name,v9⟩ eS)) fun us=>En (dJ,fG,us)))
  (En (dJ,bj,aK))
theorem zf8 {J bp bj bf aK x1 x2 x3 r}(h:f112 J bp bj bf aK=En r):
  (r.1≠0/\r.2=(bj,aK)/\ai pr (X pr) 112 [.ptr 0 0,aE J] [kR bp bj bf aK,x1,x2,x3]=En (Iv r.1,Ga,[kR bp bj bf aK,x1,x2,x3])) \/
  (r.1=0/\∃(n:Nat) (b:aM) (cs:List (AVal×Bool)),ai pr (X pr) 112 [.ptr 0 0,aE J] [kR bp bj bf aK,x1,x2,x3]=En (Iv 0,Ga,[.cells [(Iv bp,Ga),(sl 5 jf r.2.1,Ga),(sl 4 qw bf,Ga),(.ms 5 0 n,Ga)],x1,x2,x3,b,.cells cs])/\cs.map (·.1)=zi bI (r.2.2.getD [])/\n=(r.2.2.getD []).length/\0<n):=by
 unfold f112 at h;obtain⟨v1,I,h⟩:=qb h;obtain⟨v3,h4,h⟩:=qb h;have rF:ae pr (X pr) 69 [aG bp bj bf aK,.str v1]=En (Iv v3,Ga):=uo h4;obtain⟨v5,h6,h⟩:=qb h;obtain⟨v7,h8,h⟩:=qb h;have ol:ae pr (X pr) 58 [aG bp bj bf aK,.str v5]=En (Iv v7,Ga):=Dk h8;obtain⟨v9,eh,h⟩:=qb h;obtain⟨v11,kN,h⟩:=qb h;obtain⟨eS,fF,h⟩:=qb h;obtain⟨dA,jQ,h⟩:=qb h;have iZ:ae pr (X pr) 161 [aG bp bj bf aK,aU v11]=En (aD dA,Ga):=Sx jQ;obtain⟨eF,l6,h⟩:=qb h;have rB:ae pr (X pr) 172 [sl 2 bD dA.bh,.fn (.func 187) [] [.aq (aL eS)]]=En (.bool eF,Ga):=j56 l6;obtain⟨ey,nx,h⟩:=qb h;have fN:ae pr (X pr) 36 [.bool v11.ax,Iv 21]=En (Iv ey,Ga):=dI nx;obtain⟨v21,gj,h⟩:=qb h;have rC:ae pr (X pr) 36 [.bool (decide (v9=0)),Iv 3]=En (Iv v21,Ga):=dI gj;obtain⟨v23,lu,h⟩:=qb h;have uj:ae pr (X pr) 36 [.bool eS.held,Iv 34]=En (Iv v23,Ga):=dI lu;obtain⟨v25,mP,h⟩:=qb h;have mc:ae pr (X pr) 36 [.bool (!eF),Iv 7]=En (Iv v25,Ga):=dI mP;obtain⟨nD,jI,h⟩:=qb h;have tY:ae pr (X pr) 36 [.bool (decide (eS.left<v9)),Iv 4]=En (Iv nD,Ga):=dI jI;obtain⟨dJ,lB,h⟩:=qb h;have kT:ae pr (X pr) 35 [.list Ga 1 [Iv ey,Iv v21,Iv v23,Iv v25,Iv nD]]=En (Iv dJ,Ga):=gC lB;rcases qc h with⟨fA,h⟩|⟨fA,h⟩
 .obtain⟨fG,oY,h⟩:=qb h;have rD:ae pr (X pr) 188 [sl 5 jf bj,Iv v7,.fn (.func 189) [] [.aq (Iv v9)]]=En (sl 5 jf fG,Ga):=jn2 oY;obtain⟨kQ,gW,h⟩:=qb h;have l7:ae pr (X pr) 191 [sl 2 bD v11.uses,.fn (.func 190) [] [.aq (aL eS)]]=En (Iv kQ,Ga):=j3a gW;rcases qc h with⟨uc,h⟩|⟨uc,h⟩
  .obtain⟨v37,rn,h⟩:=qb h;obtain⟨us,hu,h⟩:=qb h;cases h;obtain⟨n,x,y,rfl,hl,M,hy,rfl⟩:=AH hu;obtain⟨cs,g1,g2⟩:=jxu (b0:=(kR bp fG bf aK)) (b1:=x1) (b2:=x2) (b3:=x3) M hy;have w:=jrg hl (Hb.1 M).1 g1;simp only[q4t]at w;refine .inr ⟨of_decide_eq_true fA,(aK.getD []).length,.cells [(.str eS.name,Ga),(Iv (qd .i64 (v9+v37.n)),Ga)],cs,?_,g2,by simp,by have:=(Hb.1 M).1;omega⟩;rw[qg (show pr.br 112=En po from rfl) (by simp)];simp only[go_sem,seval,po,jn I,rF,jn h6,ol,jn eh,jn kN,jn fF,iZ,rB,fN,rC,uj,mc,tY,kT,fA,rD,l7,uc,jn rn,w,(show ∀n,below 5 (.ms 5 0 n)=Ga from fun _=>rfl),I1,cond_false]
  .obtain⟨us,hu,h⟩:=qb h;cases h;obtain⟨n,x,y,rfl,hl,M,hy,rfl⟩:=AH hu;obtain⟨cs,g1,g2⟩:=jxu (b0:=(kR bp fG bf aK)) (b1:=x1) (b2:=x2) (b3:=x3) M hy;have w:=jrg hl (Hb.1 M).1 g1;simp only[q4t]at w;refine .inr ⟨of_decide_eq_true fA,(aK.getD []).length,.cells [(.str eS.name,Ga),(Iv v9,Ga)],cs,?_,g2,by simp,by have:=(Hb.1 M).1;omega⟩;rw[qg (show pr.br 112=En po from rfl) (by simp)];simp only[go_sem,seval,po,jn I,rF,jn h6,ol,jn eh,jn kN,jn fF,iZ,rB,fN,rC,uj,mc,tY,kT,fA,rD,l7,uc,w,(show ∀n,below 5 (.ms 5 0 n)=Ga from fun _=>rfl),I1,cond_false]
 .cases h;refine .inl ⟨of_decide_eq_false fA,rfl,?_⟩;rw[qg (show pr.br 112=En po from rfl) (by simp)];simp only[go_sem,seval,po,jn I,rF,jn h6,ol,jn eh,jn kN,jn fF,iZ,rB,fN,rC,uj,mc,tY,kT,fA]<;>rfl
end Go.Z
end
