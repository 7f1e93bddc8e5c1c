/- Chapter 10. -/
import Derived.Test.YtoaianfagfampaaGreatDoorCA
set_option linter.all false
set_option maxRecDepth 100000
set_option maxHeartbeats 4000000
noncomputable section
open Option renaming some->En,none->E9
open Bool renaming false->Ep,true->E3,and_self->G8,false_and->Hq
open Nat renaming le_of_ble_eq_true->E8,ble_eq_true_of_le->G5,beq_refl->Ha,beq->Hd,blt_eq->Hk
open List renaming getElem?_eq_some_iff->G0,replicate->G1,length_set->G4,map->G7,length_map->Hb,drop_eq_nil_of_le->Hc,take_of_length_le->He,nil_append->Hf,all->Hg,append_nil->Ho,take_zero->Hp
namespace Go.Z
open Go Go.Abs Go.W
def f18 (O:Bool)(J:Int):Option Int:=
 cond O
  (En J)
  (En 0)
theorem dp {O J r}(h:f18 O J=En r):ae pr (X pr) 18 [.bool O,Iv J]=En (Iv r,Ep):=by
 unfold f18 at h;refine zd Ww ?_
 repeat' first|(replace h:=qe h;rcases h with⟨g,h⟩|⟨g,h⟩)
 all_goals (cases h<;>(simp only[go_sem,seval,Ww, *];exact⟨_,rfl⟩))
def Bl (O:ak Int)(V:Int):Option (Int⊕(Int⊕Int)):=
 cond (decide (V<((O.getD []).length:Int)))
  (qc (qo (O.getD []) V) fun v10=>
  cond (decide (v10=0))
   (En (.inl (qf .i64 (V+1))))
   (En (.inr (.inl v10))))
  (En (.inr (.inr V)))
def OA (O:ak Int)(V:Int):bj:=⟨[(5,sl 1 zg O,Ep),(6,Lv O,Ep),(7,Iv V,Ep)],[]⟩
def OB (O:ak Int):Int⊕Int->jc×bj
 | .inl d=>(.ret,⟨[(2,Iv d,Ep)],[]⟩)| .inr d=>(.exit 0,⟨[(5,sl 1 zg O,Ep),(6,Lv O,Ep),(7,Iv d,Ep),(8,.bool Ep,Ep)],[]⟩)
theorem jxn (O:ak Int)(V:Int)(r)(h:Bl O V=En r):js pr OC (OA O) (OB O) V r:=by
 unfold Bl at h
 repeat' first|(replace h:=qd h;obtain⟨d,g,h⟩:=h)|(replace h:=qe h;rcases h with⟨g,h⟩|⟨g,h⟩)
 all_goals (cases h<;>((first|refine qw ?_|refine jy ?_);simp only[go_sem,seval,OC,OA,jn,OB, *]<;>rfl))
theorem j1x (O:ak Int){V d}(h:bu (Bl O) V=En d):X pr (.loop OC) (OA O V)=En (OB O d):=zq (jxn O) h
def f17 (O:ak Int):Option Int:=
 qc (bu (Bl O) 0) fun d13=>match d13 with
  | .inl d15=>
   En d15
  | .inr d16=>
   En 0
theorem fC {O r}(h:f17 O=En r):ae pr (X pr) 17 [sl 1 zg O]=En (Iv r,Ep):=by
 unfold f17 at h;refine zd Wx ?_
 repeat' first|(replace h:=qd h;obtain⟨d,g,h⟩:=h;with_reducible first|(replace g:=j1x O g;rcases d with d|d<;>dsimp only[OA,OB,zp]at g h)|skip)|(replace h:=qe h;rcases h with⟨g,h⟩|⟨g,h⟩)
 all_goals (cases h<;>(simp only[go_sem,seval,Wx, *];exact⟨_,rfl⟩))
def f90 (O:Int)(J:Int)(a2:Int):Option Int:=
 cond (decide (O<J))
  (qc (f18 E3 3) fun v2=>
  En v2)
  (qc (f18 (decide (a2<O)) 3) fun v4=>
  En v4)
theorem OD {O J a2 r}(h:f90 O J a2=En r):ae pr (X pr) 90 [Iv O,Iv J,Iv a2]=En (Iv r,Ep):=by
 unfold f90 at h;refine zd Wy ?_
 repeat' first|(replace h:=qd h;obtain⟨d,g,h⟩:=h;with_reducible first|replace g:=dp g|skip)|(replace h:=qe h;rcases h with⟨g,h⟩|⟨g,h⟩)
 all_goals (cases h<;>(simp only[go_sem,seval,Wy, *];exact⟨_,rfl⟩))
def yL (O:aj)(V:Int):Option (Int⊕(Unit⊕Int)):=
 cond (decide (V<(O.length:Int)))
  (qc (qo O V) fun v70=>
  cond (decide (65<=(v70.toNat:Int)))
   (cond (decide ((v70.toNat:Int)<=90))
    (cond (decide (48<=(v70.toNat:Int)))
     (cond (decide ((v70.toNat:Int)<=57))
      (En (.inl (qf .i64 (V+1))))
      (En (.inl (qf .i64 (V+1)))))
     (En (.inl (qf .i64 (V+1)))))
    (cond (decide (97<=(v70.toNat:Int)))
     (cond (decide (48<=(v70.toNat:Int)))
      (cond (decide ((v70.toNat:Int)<=57))
       (cond (decide ((v70.toNat:Int)<=122))
        (En (.inl (qf .i64 (V+1))))
        (cond (decide (V=0))
         (En (.inr (.inl ())))
         (En (.inl (qf .i64 (V+1))))))
       (cond (decide ((v70.toNat:Int)<=122))
        (En (.inl (qf .i64 (V+1))))
        (cond (decide (V=0))
         (En (.inr (.inl ())))
         (cond (decide ((v70.toNat:Int)=95))
          (En (.inl (qf .i64 (V+1))))
          (En (.inr (.inl ())))))))
      (cond (decide ((v70.toNat:Int)<=122))
       (En (.inl (qf .i64 (V+1))))
       (cond (decide (V=0))
        (En (.inr (.inl ())))
        (cond (decide ((v70.toNat:Int)=95))
         (En (.inl (qf .i64 (V+1))))
         (En (.inr (.inl ())))))))
     (cond (decide (48<=(v70.toNat:Int)))
      (cond (decide ((v70.toNat:Int)<=57))
       (cond (decide (V=0))
        (En (.inr (.inl ())))
        (En (.inl (qf .i64 (V+1)))))
       (cond (decide (V=0))
        (En (.inr (.inl ())))
        (cond (decide ((v70.toNat:Int)=95))
         (En (.inl (qf .i64 (V+1))))
         (En (.inr (.inl ()))))))
      (cond (decide (V=0))
       (En (.inr (.inl ())))
       (cond (decide ((v70.toNat:Int)=95))
        (En (.inl (qf .i64 (V+1))))
        (En (.inr (.inl ()))))))))
   (cond (decide (97<=(v70.toNat:Int)))
    (cond (decide (48<=(v70.toNat:Int)))
     (cond (decide ((v70.toNat:Int)<=57))
      (cond (decide ((v70.toNat:Int)<=122))
       (En (.inl (qf .i64 (V+1))))
       (cond (decide (V=0))
        (En (.inr (.inl ())))
        (En (.inl (qf .i64 (V+1))))))
      (cond (decide ((v70.toNat:Int)<=122))
       (En (.inl (qf .i64 (V+1))))
       (cond (decide (V=0))
        (En (.inr (.inl ())))
        (cond (decide ((v70.toNat:Int)=95))
         (En (.inl (qf .i64 (V+1))))
         (En (.inr (.inl ())))))))
     (cond (decide ((v70.toNat:Int)<=122))
      (En (.inl (qf .i64 (V+1))))
      (cond (decide (V=0))
       (En (.inr (.inl ())))
       (cond (decide ((v70.toNat:Int)=95))
        (En (.inl (qf .i64 (V+1))))
        (En (.inr (.inl ())))))))
    (cond (decide (48<=(v70.toNat:Int)))
     (cond (decide ((v70.toNat:Int)<=57))
      (cond (decide (V=0))
       (En (.inr (.inl ())))
       (En (.inl (qf .i64 (V+1)))))
      (cond (decide (V=0))
       (En (.inr (.inl ())))
       (cond (decide ((v70.toNat:Int)=95))
        (En (.inl (qf .i64 (V+1))))
        (En (.inr (.inl ()))))))
     (cond (decide (V=0))
      (En (.inr (.inl ())))
      (cond (decide ((v70.toNat:Int)=95))
       (En (.inl (qf .i64 (V+1))))
       (En (.inr (.inl ()))))))))
  (En (.inr (.inr V)))
def OE (O:aj)(V:Int):bj:=⟨[(0,.str O,Ep),(3,Iv V,Ep)],[]⟩
def OG (O:aj):Unit⊕Int->jc×bj
 | .inl d=>(.ret,⟨[(2,.bool Ep,Ep)],[]⟩)| .inr d=>(.exit 0,⟨[(0,.str O,Ep),(3,Iv d,Ep),(17,.bool Ep,Ep)],[]⟩)
theorem jtf (O:aj)(V:Int)(r)(h:yL O V=En r):js pr OH (OE O) (OG O) V r:=by
 unfold yL at h
 repeat' first|(replace h:=qd h;obtain⟨d,g,h⟩:=h)|(replace h:=qe h;rcases h with⟨g,h⟩|⟨g,h⟩)
 all_goals (cases h<;>((first|refine qw ?_|refine jy ?_);simp only[go_sem,seval,OH,OE,T0,OG, *]<;>rfl))
theorem jty (O:aj){V d}(h:bu (yL O) V=En d):X pr (.loop OH) (OE O V)=En (OG O d):=zq (jtf O) h
def f109 (O:aj):Option Bool:=
 cond (decide ((O.length:Int)=0))
  (En Ep)
  (cond (decide (24<(O.length:Int)))
   (En Ep)
   (qc (bu (yL O) 0) fun d112=>match d112 with
    | .inl d114=>
     En Ep
    | .inr d115=>
     En E3))
theorem zbi {O r}(h:f109 O=En r):ae pr (X pr) 109 [.str O]=En (.bool r,Ep):=by
 unfold f109 at h;refine zd CC ?_
 repeat' first|(replace h:=qd h;obtain⟨d,g,h⟩:=h;with_reducible first|(replace g:=jty O g;rcases d with d|d<;>dsimp only[OE,OG,zp]at g h)|skip)|(replace h:=qe h;rcases h with⟨g,h⟩|⟨g,h⟩)
 all_goals (cases h<;>(simp only[go_sem,seval,CC, *];exact⟨_,rfl⟩))
def yM (O:aj):Option (Option (Nat)⊕(Nat⊕Nat)):=
 cond (decide (0<O.length))
  (cond (decide (65<=((ql O 0).1:Int)))
   (cond (decide (((ql O 0).1:Int)<=90))
    (cond (decide (48<=((ql O 0).1:Int)))
     (cond (decide (((ql O 0).1:Int)<=57))
      (En (.inl (En (0+(ql O 0).2))))
      (En (.inl (En (0+(ql O 0).2)))))
     (En (.inl (En (0+(ql O 0).2)))))
    (cond (decide (97<=((ql O 0).1:Int)))
     (cond (decide (48<=((ql O 0).1:Int)))
      (cond (decide (((ql O 0).1:Int)<=57))
       (cond (decide (((ql O 0).1:Int)<=122))
        (En (.inl (En (0+(ql O 0).2))))
        (En (.inr (.inl (0+(ql O 0).2)))))
       (cond (decide (((ql O 0).1:Int)<=122))
        (En (.inl (En (0+(ql O 0).2))))
        (En (.inr (.inl (0+(ql O 0).2))))))
      (cond (decide (((ql O 0).1:Int)<=122))
       (En (.inl (En (0+(ql O 0).2))))
       (En (.inr (.inl (0+(ql O 0).2))))))
     (cond (decide (48<=((ql O 0).1:Int)))
      (cond (decide (((ql O 0).1:Int)<=57))
       (En (.inr (.inl (0+(ql O 0).2))))
       (En (.inr (.inl (0+(ql O 0).2)))))
      (En (.inr (.inl (0+(ql O 0).2)))))))
   (cond (decide (97<=((ql O 0).1:Int)))
    (cond (decide (48<=((ql O 0).1:Int)))
     (cond (decide (((ql O 0).1:Int)<=57))
      (cond (decide (((ql O 0).1:Int)<=122))
       (En (.inl (En (0+(ql O 0).2))))
       (En (.inr (.inl (0+(ql O 0).2)))))
      (cond (decide (((ql O 0).1:Int)<=122))
       (En (.inl (En (0+(ql O 0).2))))
       (En (.inr (.inl (0+(ql O 0).2))))))
     (cond (decide (((ql O 0).1:Int)<=122))
      (En (.inl (En (0+(ql O 0).2))))
      (En (.inr (.inl (0+(ql O 0).2))))))
    (cond (decide (48<=((ql O 0).1:Int)))
     (cond (decide (((ql O 0).1:Int)<=57))
      (En (.inr (.inl (0+(ql O 0).2))))
      (En (.inr (.inl (0+(ql O 0).2)))))
     (En (.inr (.inl (0+(ql O 0).2)))))))
  (En (.inr (.inr 0)))
def yN (O:aj)(V:Nat):Option (Option (Nat)⊕(Nat⊕Nat)):=
 cond (decide (V<O.length))
  (cond (decide (65<=((ql O V).1:Int)))
   (cond (decide (((ql O V).1:Int)<=90))
    (cond (decide (48<=((ql O V).1:Int)))
     (cond (decide (((ql O V).1:Int)<=57))
      (En (.inl (En (V+(ql O V).2))))
      (En (.inl (En (V+(ql O V).2)))))
     (En (.inl (En (V+(ql O V).2)))))
    (cond (decide (97<=((ql O V).1:Int)))
     (cond (decide (48<=((ql O V).1:Int)))
      (cond (decide (((ql O V).1:Int)<=57))
       (cond (decide (((ql O V).1:Int)<=122))
        (En (.inl (En (V+(ql O V).2))))
        (cond (decide ((V:Int)=0))
         (En (.inr (.inl (V+(ql O V).2))))
         (En (.inl (En (V+(ql O V).2))))))
       (cond (decide (((ql O V).1:Int)<=122))
        (En (.inl (En (V+(ql O V).2))))
        (cond (decide ((V:Int)=0))
         (En (.inr (.inl (V+(ql O V).2))))
         (cond (decide (((ql O V).1:Int)=95))
          (En (.inl (En (V+(ql O V).2))))
          (En (.inr (.inl (V+(ql O V).2))))))))
      (cond (decide (((ql O V).1:Int)<=122))
       (En (.inl (En (V+(ql O V).2))))
       (cond (decide ((V:Int)=0))
        (En (.inr (.inl (V+(ql O V).2))))
        (cond (decide (((ql O V).1:Int)=95))
         (En (.inl (En (V+(ql O V).2))))
         (En (.inr (.inl (V+(ql O V).2))))))))
     (cond (decide (48<=((ql O V).1:Int)))
      (cond (decide (((ql O V).1:Int)<=57))
       (cond (decide ((V:Int)=0))
        (En (.inr (.inl (V+(ql O V).2))))
        (En (.inl (En (V+(ql O V).2)))))
       (cond (decide ((V:Int)=0))
        (En (.inr (.inl (V+(ql O V).2))))
        (cond (decide (((ql O V).1:Int)=95))
         (En (.inl (En (V+(ql O V).2))))
         (En (.inr (.inl (V+(ql O V).2)))))))
      (cond (decide ((V:Int)=0))
       (En (.inr (.inl (V+(ql O V).2))))
       (cond (decide (((ql O V).1:Int)=95))
        (En (.inl (En (V+(ql O V).2))))
        (En (.inr (.inl (V+(ql O V).2)))))))))
   (cond (decide (97<=((ql O V).1:Int)))
    (cond (decide (48<=((ql O V).1:Int)))
     (cond (decide (((ql O V).1:Int)<=57))
      (cond (decide (((ql O V).1:Int)<=122))
       (En (.inl (En (V+(ql O V).2))))
       (cond (decide ((V:Int)=0))
        (En (.inr (.inl (V+(ql O V).2))))
        (En (.inl (En (V+(ql O V).2))))))
      (cond (decide (((ql O V).1:Int)<=122))
       (En (.inl (En (V+(ql O V).2))))
       (cond (decide ((V:Int)=0))
        (En (.inr (.inl (V+(ql O V).2))))
        (cond (decide (((ql O V).1:Int)=95))
         (En (.inl (En (V+(ql O V).2))))
         (En (.inr (.inl (V+(ql O V).2))))))))
     (cond (decide (((ql O V).1:Int)<=122))
      (En (.inl (En (V+(ql O V).2))))
      (cond (decide ((V:Int)=0))
       (En (.inr (.inl (V+(ql O V).2))))
       (cond (decide (((ql O V).1:Int)=95))
        (En (.inl (En (V+(ql O V).2))))
        (En (.inr (.inl (V+(ql O V).2))))))))
    (cond (decide (48<=((ql O V).1:Int)))
     (cond (decide (((ql O V).1:Int)<=57))
      (cond (decide ((V:Int)=0))
       (En (.inr (.inl (V+(ql O V).2))))
       (En (.inl (En (V+(ql O V).2)))))
      (cond (decide ((V:Int)=0))
       (En (.inr (.inl (V+(ql O V).2))))
       (cond (decide (((ql O V).1:Int)=95))
        (En (.inl (En (V+(ql O V).2))))
        (En (.inr (.inl (V+(ql O V).2)))))))
     (cond (decide ((V:Int)=0))
      (En (.inr (.inl (V+(ql O V).2))))
      (cond (decide (((ql O V).1:Int)=95))
       (En (.inl (En (V+(ql O V).2))))
       (En (.inr (.inl (V+(ql O V).2)))))))))
  (En (.inr (.inr V)))
def Jt (O:aj):Option (Nat)->Option (Option (Nat)⊕(Nat⊕Nat))
 |none=>yM O|some x=>yN O x
def Wz (O:aj)(V:Nat):bj:=⟨[(0,.str O,Ep),(8,.ptr 0 0,Ep),(46,.bool Ep,Ep)],[.iter O V]⟩
def CD (O:aj):Option (Nat)->bj
 |none=>⟨[(0,.str O,Ep),(8,.ptr 0 0,Ep)],[.iter O 0]⟩|some x=>Wz O x
def CF (O:aj):Nat⊕Nat->jc×bj
 | .inl d=>(.ret,⟨[(2,.bool Ep,Ep)],[.iter O d]⟩)| .inr d=>(.exit 0,⟨[(0,.str O,Ep),(8,.ptr 0 0,Ep),(9,.bq [.bool Ep],Ep),(10,.bool Ep,Ep)],[.iter O d]⟩)
theorem jto (O:aj)(r)(h:yM O=En r):js pr CG (CD O) (CF O) E9 r:=by
 unfold yM at h
 repeat' first|(replace h:=qe h;rcases h with⟨g,h⟩|⟨g,h⟩)
 all_goals (cases h<;>((first|refine qw ?_|refine jy ?_);simp only[go_sem,seval,CG,CD,Wz,xY,CF, *]<;>rfl))
theorem jua (O:aj)(V:Nat)(r)(h:yN O V=En r):js pr CG (CD O) (CF O) (En V) r:=by
 unfold yN at h
 repeat' first|(replace h:=qe h;rcases h with⟨g,h⟩|⟨g,h⟩)
 all_goals (cases h<;>((first|refine qw ?_|refine jy ?_);simp only[go_sem,seval,CG,CD,Wz,xY,CF, *]<;>rfl))
theorem jz6 (O:aj):∀(x:Option (Nat)) (r) (h:Jt O x=En r),js pr CG (CD O) (CF O) x r
 |none,r,h=>jto O r h|some x,r,h=>jua O x r h
theorem j1v (O:aj){V d}(h:bu (Jt O) V=En d):X pr (.loop CG) (CD O V)=En (CF O d):=zq (jz6 O) h
def f71 (O:aj):Option Bool:=
 qc (bu (Jt O) E9) fun d192=>match d192 with
  | .inl d194=>
   En Ep
  | .inr d195=>
   cond (decide (O=[]))
    (En Ep)
    (En (decide ((O.length:Int)<=24)))
theorem W71 {O r}(h:f71 O=En r):ae pr (X pr) 71 [.str O]=En (.bool r,Ep):=by
 unfold f71 at h;refine zd WA ?_
 repeat' first|(replace h:=qd h;obtain⟨d,g,h⟩:=h;with_reducible first|(replace g:=j1v O g;rcases d with d|d<;>dsimp only[CD,CF,zp]at g h)|skip)|(replace h:=qe h;rcases h with⟨g,h⟩|⟨g,h⟩)
 all_goals (cases h<;>(simp only[go_sem,seval,WA, *];exact⟨_,rfl⟩))
end Go.Z
namespace Go.Z
open Go Go.Abs Go.W
def FD (O:aj):Option Int:=
 qc (f71 O) fun v1=>
 qc (f18 (!v1) 8) fun v3=>
 En v3
theorem j5k (hp:qi){O r}(h:FD O=En r):ai pr (X pr) 92 [.str O] hp=En (Iv r,Ep,hp):=by
 unfold FD at h;obtain⟨v1,I,h⟩:=qd h;have iY:ae pr (X pr) 71 [.str O]=En (.bool v1,Ep):=W71 I;obtain⟨v3,h4,h⟩:=qd h;have wZ:ae pr (X pr) 18 [.bool (!v1),Iv 8]=En (Iv v3,Ep):=dp h4;have Q:v3=r:=En.inj h;subst Q;rw[qh (show pr.bn 92=En WB from rfl) (by simp)];simp only[go_sem,seval,WB,iY,wZ]<;>rfl
def FE (O:Int):Option Int:=
 qc (f90 O 0 999999999) fun v1=>
 En v1
theorem j89 (hp:qi){O r}(h:FE O=En r):ai pr (X pr) 94 [Iv O] hp=En (Iv r,Ep,hp):=by
 unfold FE at h;obtain⟨v1,I,h⟩:=qd h;have iY:ae pr (X pr) 90 [Iv O,Iv 0,Iv 999999999]=En (Iv v1,Ep):=OD I;have Q:v1=r:=En.inj h;subst Q;rw[qh (show pr.bn 94=En WC from rfl) (by simp)];simp only[go_sem,seval,WC,iY]<;>rfl
def Ju (O:ak aj)(V:(ak Int)×Int×Bool):Option (((ak Int)×Int×Bool)⊕(((ak Int)×Bool×Int))):=
 cond (decide (V.2.1<((O.getD []).length:Int)))
  (qc (qo (O.getD []) V.2.1) fun eU=>
  qc (FD eU) fun v20=>
  cond V.2.2
   (qc (bB V.1 [v20]) fun v23=>
   En (.inl (v23,qf .i64 (V.2.1+1),E3)))
   (cond V.1.isNone
    (qc (bB V.1 [v20]) fun v26=>
    En (.inl (v26,qf .i64 (V.2.1+1),E3)))
    (E9)))
  (En (.inr (V.1,V.2.2,V.2.1)))
def OI (O:ak aj)(V:(ak Int)×Int×Bool):bj:=⟨[(1,.fn (.func 92) [] [],Ep),(5,sl 1 zg V.1,V.2.2),(8,sl 1 jf O,Ep),(9,Lv O,Ep),(10,Iv V.2.1,Ep)],[]⟩
def OJ (O:ak aj)(d:((ak Int)×Bool×Int)):jc×bj:=(.exit 0,⟨[(1,.fn (.func 92) [] [],Ep),(5,sl 1 zg d.1,d.2.1),(8,sl 1 jf O,Ep),(9,Lv O,Ep),(10,Iv d.2.2,Ep),(11,.bool Ep,Ep)],[]⟩)
theorem jy7 (O:ak aj)(V:(ak Int)×Int×Bool)(r)(h:Ju O V=En r):js pr OL (OI O) (OJ O) V r:=by
 unfold Ju at h
 repeat' first|(replace h:=qd h;obtain⟨d,g,h⟩:=h;with_reducible first|replace g:=j5k [] g|replace g:=ja2 g|skip)|(replace h:=qe h;rcases h with⟨g,h⟩|⟨g,h⟩)
 all_goals (cases h<;>((first|refine qw ?_|refine jy ?_);simp only[go_sem,seval,OL,OI,jn,OJ, *]<;>rfl))
theorem j0b (O:ak aj){V d}(h:bu (Ju O) V=En d):X pr (.loop OL) (OI O V)=En (OJ O d):=zq (jy7 O) h
def f91 (O:ak aj):Option ((ak Int)×Bool):=
 qc (bu (Ju O) (E9,0,Ep)) fun d28=>
 En (d28.1,d28.2.1)
theorem W91 {O r}(h:f91 O=En r):ae pr (X pr) 91 [sl 1 jf O,.fn (.func 92) [] []]=En (sl 1 zg r.1,r.2):=by
 unfold f91 at h;refine yf WD ?_
 repeat' first|(replace h:=qd h;obtain⟨d,g,h⟩:=h;with_reducible first|(replace g:=j0b O g;dsimp only[OI,OJ,zp]at g h)|skip)|(replace h:=qe h;rcases h with⟨g,h⟩|⟨g,h⟩)
 all_goals (cases h<;>(simp only[go_sem,seval,WD, *];exact⟨_,rfl⟩))
def Jv (O:ak Int)(V:(ak Int)×Int×Bool):Option (((ak Int)×Int×Bool)⊕(((ak Int)×Bool×Int))):=
 cond (decide (V.2.1<((O.getD []).length:Int)))
  (qc (qo (O.getD []) V.2.1) fun eU=>
  qc (FE eU) fun v20=>
  cond V.2.2
   (qc (bB V.1 [v20]) fun v23=>
   En (.inl (v23,qf .i64 (V.2.1+1),E3)))
   (cond V.1.isNone
    (qc (bB V.1 [v20]) fun v26=>
    En (.inl (v26,qf .i64 (V.2.1+1),E3)))
    (E9)))
  (En (.inr (V.1,V.2.2,V.2.1)))
def OM (O:ak Int)(V:(ak Int)×Int×Bool):bj:=⟨[(1,.fn (.func 94) [] [],Ep),(5,sl 1 zg V.1,V.2.2),(8,sl 1 zg O,Ep),(9,Lv O,Ep),(10,Iv V.2.1,Ep)],[]⟩
def OO (O:ak Int)(d:((ak Int)×Bool×Int)):jc×bj:=(.exit 0,⟨[(1,.fn (.func 94) [] [],Ep),(5,sl 1 zg d.1,d.2.1),(8,sl 1 zg O,Ep),(9,Lv O,Ep),(10,Iv d.2.2,Ep),(11,.bool Ep,Ep)],[]⟩)
theorem jym (O:ak Int)(V:(ak Int)×Int×Bool)(r)(h:Jv O V=En r):js pr OP (OM O) (OO O) V r:=by
 unfold Jv at h
 repeat' first|(replace h:=qd h;obtain⟨d,g,h⟩:=h;with_reducible first|replace g:=j89 [] g|replace g:=ja2 g|skip)|(replace h:=qe h;rcases h with⟨g,h⟩|⟨g,h⟩)
 all_goals (cases h<;>((first|refine qw ?_|refine jy ?_);simp only[go_sem,seval,OP,OM,jn,OO, *]<;>rfl))
theorem jx4 (O:ak Int){V d}(h:bu (Jv O) V=En d):X pr (.loop OP) (OM O V)=En (OO O d):=zq (jym O) h
def f93 (O:ak Int):Option ((ak Int)×Bool):=
 qc (bu (Jv O) (E9,0,Ep)) fun d28=>
 En (d28.1,d28.2.1)
theorem W93 {O r}(h:f93 O=En r):ae pr (X pr) 93 [sl 1 zg O,.fn (.func 94) [] []]=En (sl 1 zg r.1,r.2):=by
 unfold f93 at h;refine yf WE ?_
 repeat' first|(replace h:=qd h;obtain⟨d,g,h⟩:=h;with_reducible first|(replace g:=jx4 O g;dsimp only[OM,OO,zp]at g h)|skip)|(replace h:=qe h;rcases h with⟨g,h⟩|⟨g,h⟩)
 all_goals (cases h<;>(simp only[go_sem,seval,WE, *];exact⟨_,rfl⟩))
def f86 (O:ak aj):Option ((ak aj)×Bool):=
 cond O.isNone
  (En (E9,Ep))
  (qc (bB (En []) (O.getD [])) fun v2=>
  En (v2,E3))
theorem Vk {O r}(h:f86 O=En r):ae pr (X pr) 86 [sl 1 jf O]=En (sl 1 jf r.1,r.2):=by
 unfold f86 at h;refine yf WG ?_
 repeat' first|(replace h:=qd h;obtain⟨d,g,h⟩:=h)|(replace h:=qe h;rcases h with⟨g,h⟩|⟨g,h⟩)
 all_goals (cases h<;>(simp only[go_sem,seval,WG,nv, *];exact⟨_,rfl⟩))
def f105 (O:ak Int):Option ((ak Int)×Bool):=
 cond O.isNone
  (En (E9,Ep))
  (qc (bB (En []) (O.getD [])) fun v2=>
  En (v2,E3))
theorem jse {O r}(h:f105 O=En r):ae pr (X pr) 105 [sl 1 zg O]=En (sl 1 zg r.1,r.2):=by
 unfold f105 at h;refine yf CH ?_
 repeat' first|(replace h:=qd h;obtain⟨d,g,h⟩:=h)|(replace h:=qe h;rcases h with⟨g,h⟩|⟨g,h⟩)
 all_goals (cases h<;>(simp only[go_sem,seval,CH,nv, *];exact⟨_,rfl⟩))
def f35 (O:GEv):Option GEv:=
 qc (f86 O.names) fun v1=>
 qc (f105 O.values) fun v3=>
 cond v1.2
  (cond v3.2
   (En (⟨O.number,O.kind,v1.1,v3.1,O.text⟩))
   (En (⟨O.number,O.kind,v1.1,v3.1,O.text⟩)))
  (cond v3.2
   (En (⟨O.number,O.kind,v1.1,v3.1,O.text⟩))
   (En (⟨O.number,O.kind,v1.1,v3.1,O.text⟩)))
theorem W35 {O r}(h:f35 O=En r):ae pr (X pr) 35 [aE O]=En (aE r,Ep):=by
 unfold f35 at h;refine zd JY ?_
 repeat' first|(replace h:=qd h;obtain⟨d,g,h⟩:=h;with_reducible first|replace g:=Vk g|replace g:=jse g|skip)|(replace h:=qe h;rcases h with⟨g,h⟩|⟨g,h⟩)
 all_goals (cases h<;>(simp only[go_sem,seval,JY, *];exact⟨_,rfl⟩))
def OQ (O:ak aj)(J:aj)(V:Int):Option (Int⊕(Int⊕Int)):=
 cond (decide (V<((O.getD []).length:Int)))
  (qc (qo (O.getD []) V) fun v10=>
  cond (decide (J=v10))
   (En (.inr (.inl V)))
   (En (.inl (qf .i64 (V+1)))))
  (En (.inr (.inr V)))
def OS (O:ak aj)(J:aj)(V:Int):bj:=⟨[(0,sl 1 jf O,Ep),(1,.str J,Ep),(7,Lv O,Ep),(8,Iv V,Ep)],[]⟩
def OT (O:ak aj)(J:aj):Int⊕Int->jc×bj
 | .inl d=>(.ret,⟨[(4,Iv d,Ep)],[]⟩)| .inr d=>(.exit 0,⟨[(0,sl 1 jf O,Ep),(1,.str J,Ep),(7,Lv O,Ep),(8,Iv d,Ep),(9,.bool Ep,Ep)],[]⟩)
theorem jrk (O:ak aj)(J:aj)(V:Int)(r)(h:OQ O J V=En r):js pr OU (OS O J) (OT O J) V r:=by
 unfold OQ at h
 repeat' first|(replace h:=qd h;obtain⟨d,g,h⟩:=h)|(replace h:=qe h;rcases h with⟨g,h⟩|⟨g,h⟩)
 all_goals (cases h<;>((first|refine qw ?_|refine jy ?_);simp only[go_sem,seval,OU,OS,jn,OT, *]<;>rfl))
theorem jsb (O:ak aj)(J:aj){V d}(h:bu (OQ O J) V=En d):X pr (.loop OU) (OS O J V)=En (OT O J d):=zq (jrk O J) h
def f131 (O:ak aj)(J:aj):Option Int:=
 qc (bu (OQ O J) 0) fun d13=>match d13 with
  | .inl d15=>
   En d15
  | .inr d16=>
   En (-1)
theorem j9y {O J r}(h:f131 O J=En r):ae pr (X pr) 131 [sl 1 jf O,.str J]=En (Iv r,Ep):=by
 unfold f131 at h;refine zd CI ?_
 repeat' first|(replace h:=qd h;obtain⟨d,g,h⟩:=h;with_reducible first|(replace g:=jsb O J g;rcases d with d|d<;>dsimp only[OS,OT,zp]at g h)|skip)|(replace h:=qe h;rcases h with⟨g,h⟩|⟨g,h⟩)
 all_goals (cases h<;>(simp only[go_sem,seval,CI, *];exact⟨_,rfl⟩))
def f69 (O:ak aj)(J:aj):Option Bool:=
 qc (f131 O J) fun v1=>
 En (decide (0<=v1))
theorem NR {O J r}(h:f69 O J=En r):ae pr (X pr) 69 [sl 1 jf O,.str J]=En (.bool r,Ep):=by
 unfold f69 at h;refine zd WH ?_
 repeat' first|(replace h:=qd h;obtain⟨d,g,h⟩:=h;with_reducible first|replace g:=j9y g|skip)|(replace h:=qe h;rcases h with⟨g,h⟩|⟨g,h⟩)
 all_goals (cases h<;>(simp only[go_sem,seval,WH, *];exact⟨_,rfl⟩))
end Go.Z
namespace Go.Z
open Go Go.Abs Go.W
def OV (O:av)(J:aj)(V:Int):Option (Int⊕(Int⊕Int)):=
 cond (decide (V<((O.units.getD []).length:Int)))
  (qc (qo (O.units.getD []) V) fun v10=>
  cond (decide (v10.name=J))
   (En (.inr (.inl V)))
   (En (.inl (qf .i64 (V+1)))))
  (En (.inr (.inr V)))
def OW (O:av)(J:aj)(V:Int):bj:=⟨[(1,.str J,Ep),(2,.aq (aR O),Ep),(5,Iv V,Ep)],[]⟩
def OX (O:av)(J:aj):Int⊕Int->jc×bj
 | .inl d=>(.ret,⟨[(4,Iv d,Ep)],[]⟩)| .inr d=>(.exit 0,⟨[(1,.str J,Ep),(2,.aq (aR O),Ep),(5,Iv d,Ep),(10,.bool Ep,Ep)],[]⟩)
theorem jrz (O:av)(J:aj)(V:Int)(r)(h:OV O J V=En r):js pr OY (OW O J) (OX O J) V r:=by
 unfold OV at h
 repeat' first|(replace h:=qd h;obtain⟨d,g,h⟩:=h)|(replace h:=qe h;rcases h with⟨g,h⟩|⟨g,h⟩)
 all_goals (cases h<;>((first|refine qw ?_|refine jy ?_);simp only[go_sem,seval,OY,OW,jn,OX, *]<;>rfl))
theorem jsx (O:av)(J:aj){V d}(h:bu (OV O J) V=En d):X pr (.loop OY) (OW O J V)=En (OX O J d):=zq (jrz O J) h
def f184 (O:av)(J:aj):Option Int:=
 qc (bu (OV O J) 0) fun d13=>match d13 with
  | .inl d15=>
   En d15
  | .inr d16=>
   En (-1)
theorem WI {O J r}(h:f184 O J=En r):ae pr (X pr) 184 [aR O,.str J]=En (Iv r,Ep):=by
 unfold f184 at h;refine zd CJ ?_
 repeat' first|(replace h:=qd h;obtain⟨d,g,h⟩:=h;with_reducible first|(replace g:=jsx O J g;rcases d with d|d<;>dsimp only[OW,OX,zp]at g h)|skip)|(replace h:=qe h;rcases h with⟨g,h⟩|⟨g,h⟩)
 all_goals (cases h<;>(simp only[go_sem,seval,CJ, *];exact⟨_,rfl⟩))
def OZ (O:av)(J:aj)(V:Int):Option (Int⊕(Int⊕Int)):=
 cond (decide (V<((O.ay.getD []).length:Int)))
  (qc (qo (O.ay.getD []) V) fun v10=>
  cond (decide (v10.name=J))
   (En (.inr (.inl V)))
   (En (.inl (qf .i64 (V+1)))))
  (En (.inr (.inr V)))
def O0 (O:av)(J:aj)(V:Int):bj:=⟨[(1,.str J,Ep),(2,.aq (aR O),Ep),(5,Iv V,Ep)],[]⟩
def O1 (O:av)(J:aj):Int⊕Int->jc×bj
 | .inl d=>(.ret,⟨[(4,Iv d,Ep)],[]⟩)| .inr d=>(.exit 0,⟨[(1,.str J,Ep),(2,.aq (aR O),Ep),(5,Iv d,Ep),(10,.bool Ep,Ep)],[]⟩)
theorem jvz (O:av)(J:aj)(V:Int)(r)(h:OZ O J V=En r):js pr O2 (O0 O J) (O1 O J) V r:=by
 unfold OZ at h
 repeat' first|(replace h:=qd h;obtain⟨d,g,h⟩:=h)|(replace h:=qe h;rcases h with⟨g,h⟩|⟨g,h⟩)
 all_goals (cases h<;>((first|refine qw ?_|refine jy ?_);simp only[go_sem,seval,O2,O0,jn,O1, *]<;>rfl))
theorem jr0 (O:av)(J:aj){V d}(h:bu (OZ O J) V=En d):X pr (.loop O2) (O0 O J V)=En (O1 O J d):=zq (jvz O J) h
def f182 (O:av)(J:aj):Option Int:=
 qc (bu (OZ O J) 0) fun d13=>match d13 with
  | .inl d15=>
   En d15
  | .inr d16=>
   En (-1)
theorem Kz {O J r}(h:f182 O J=En r):ae pr (X pr) 182 [aR O,.str J]=En (Iv r,Ep):=by
 unfold f182 at h;refine zd CK ?_
 repeat' first|(replace h:=qd h;obtain⟨d,g,h⟩:=h;with_reducible first|(replace g:=jr0 O J g;rcases d with d|d<;>dsimp only[O0,O1,zp]at g h)|skip)|(replace h:=qe h;rcases h with⟨g,h⟩|⟨g,h⟩)
 all_goals (cases h<;>(simp only[go_sem,seval,CK, *];exact⟨_,rfl⟩))
def O3 (O:av)(J:aj)(V:Int):Option (Int⊕(Int⊕Int)):=
 cond (decide (V<((O.ah.getD []).length:Int)))
  (qc (qo (O.ah.getD []) V) fun v10=>
  cond (decide (v10.name=J))
   (En (.inr (.inl V)))
   (En (.inl (qf .i64 (V+1)))))
  (En (.inr (.inr V)))
def O4 (O:av)(J:aj)(V:Int):bj:=⟨[(1,.str J,Ep),(2,.aq (aR O),Ep),(5,Iv V,Ep)],[]⟩
def O5 (O:av)(J:aj):Int⊕Int->jc×bj
 | .inl d=>(.ret,⟨[(4,Iv d,Ep)],[]⟩)| .inr d=>(.exit 0,⟨[(1,.str J,Ep),(2,.aq (aR O),Ep),(5,Iv d,Ep),(10,.bool Ep,Ep)],[]⟩)
theorem jvg (O:av)(J:aj)(V:Int)(r)(h:O3 O J V=En r):js pr O6 (O4 O J) (O5 O J) V r:=by
 unfold O3 at h
 repeat' first|(replace h:=qd h;obtain⟨d,g,h⟩:=h)|(replace h:=qe h;rcases h with⟨g,h⟩|⟨g,h⟩)
 all_goals (cases h<;>((first|refine qw ?_|refine jy ?_);simp only[go_sem,seval,O6,O4,jn,O5, *]<;>rfl))
theorem jrp (O:av)(J:aj){V d}(h:bu (O3 O J) V=En d):X pr (.loop O6) (O4 O J V)=En (O5 O J d):=zq (jvg O J) h
def f183 (O:av)(J:aj):Option Int:=
 qc (bu (O3 O J) 0) fun d13=>match d13 with
  | .inl d15=>
   En d15
  | .inr d16=>
   En (-1)
theorem O7 {O J r}(h:f183 O J=En r):ae pr (X pr) 183 [aR O,.str J]=En (Iv r,Ep):=by
 unfold f183 at h;refine zd CL ?_
 repeat' first|(replace h:=qd h;obtain⟨d,g,h⟩:=h;with_reducible first|(replace g:=jrp O J g;rcases d with d|d<;>dsimp only[O4,O5,zp]at g h)|skip)|(replace h:=qe h;rcases h with⟨g,h⟩|⟨g,h⟩)
 all_goals (cases h<;>(simp only[go_sem,seval,CL, *];exact⟨_,rfl⟩))
def BG (O:ak GEv)(V:Int)(s1:Int):Option (Int⊕(Unit⊕Int)):=
 qc (qo (O.getD []) V) fun v79=>
 cond (decide (s1<((v79.names.getD []).length:Int)))
  (qc (qo (v79.names.getD []) s1) fun v82=>
  cond (decide (40<(v82.length:Int)))
   (En (.inr (.inl ())))
   (En (.inl (qf .i64 (s1+1)))))
  (En (.inr (.inr s1)))
def O8 (O:ak GEv)(V:Int)(s1:Int):bj:=⟨[(0,sl 5 vev O,Ep),(5,Iv V,Ep),(6,Iv s1,Ep)],[]⟩
def O9 (O:ak GEv)(V:Int):Unit⊕Int->jc×bj
 | .inl d=>(.ret,⟨[(4,.bool Ep,Ep)],[]⟩)| .inr d=>(.exit 2,⟨[(0,sl 5 vev O,Ep),(5,Iv V,Ep),(6,Iv d,Ep),(58,.bool Ep,Ep)],[]⟩)
theorem j6f (O:ak GEv)(V:Int)(s1:Int)(r)(h:BG O V s1=En r):js pr Pa (O8 O V) (O9 O V) s1 r:=by
 unfold BG at h
 repeat' first|(replace h:=qd h;obtain⟨d,g,h⟩:=h)|(replace h:=qe h;rcases h with⟨g,h⟩|⟨g,h⟩)
 all_goals (cases h<;>((first|refine qw ?_|refine jy ?_);simp only[go_sem,seval,Pa,O8,jn,O9, *]<;>rfl))
theorem j82 (O:ak GEv)(V:Int){s1 d}(h:bu (BG O V) s1=En d):X pr (.loop Pa) (O8 O V s1)=En (O9 O V d):=zq (j6f O V) h
def BF (O:ak GEv)(V:Int):Option (Int⊕(Unit⊕Int)):=
 cond (decide (V<((O.getD []).length:Int)))
  (qc (qo (O.getD []) V) fun xh=>
  cond (decide (40<(xh.kind.length:Int)))
   (En (.inr (.inl ())))
   (cond (decide (6<((xh.names.getD []).length:Int)))
    (En (.inr (.inl ())))
    (cond (decide (8<((xh.values.getD []).length:Int)))
     (En (.inr (.inl ())))
     (cond (decide (200<(xh.text.length:Int)))
      (En (.inr (.inl ())))
      (qc (bu (BG O V) 0) fun d85=>match d85 with
       | .inl d87=>
        En (.inr (.inl ()))
       | .inr d88=>
        En (.inl (qf .i64 (V+1))))))))
  (En (.inr (.inr V)))
def Pb (O:ak GEv)(V:Int):bj:=⟨[(0,sl 5 vev O,Ep),(5,Iv V,Ep)],[]⟩
def Pc (O:ak GEv):Unit⊕Int->jc×bj
 | .inl d=>(.ret,⟨[(4,.bool Ep,Ep)],[]⟩)| .inr d=>(.exit 0,⟨[(0,sl 5 vev O,Ep),(5,Iv d,Ep),(14,.bool Ep,Ep)],[]⟩)
theorem zbm (O:ak GEv)(V:Int)(r)(h:BF O V=En r):js pr Pd (Pb O) (Pc O) V r:=by
 unfold BF at h
 repeat' first|(replace h:=qd h;obtain⟨d,g,h⟩:=h;with_reducible first|(replace g:=j82 O V g;rcases d with d|d<;>dsimp only[O8,O9,zp]at g h)|skip)|(replace h:=qe h;rcases h with⟨g,h⟩|⟨g,h⟩)
 all_goals (cases h<;>((first|refine qw ?_|refine jy ?_);simp only[go_sem,seval,Pd,Pb,jn,Pc, *]<;>rfl))
theorem j6j (O:ak GEv){V d}(h:bu (BF O) V=En d):X pr (.loop Pd) (Pb O V)=En (Pc O d):=zq (zbm O) h
def f4 (O:ak GEv)(J:Int):Option Bool:=
 cond (decide (J<((O.getD []).length:Int)))
  (En Ep)
  (qc (bu (BF O) 0) fun d89=>match d89 with
   | .inl d91=>
    En Ep
   | .inr d92=>
    En E3)
theorem W4 {O J r}(h:f4 O J=En r):ae pr (X pr) 4 [sl 5 vev O,Iv J]=En (.bool r,Ep):=by
 unfold f4 at h;refine zd c4 ?_
 repeat' first|(replace h:=qd h;obtain⟨d,g,h⟩:=h;with_reducible first|(replace g:=j6j O g;rcases d with d|d<;>dsimp only[Pb,Pc,zp]at g h)|skip)|(replace h:=qe h;rcases h with⟨g,h⟩|⟨g,h⟩)
 all_goals (cases h<;>(simp only[go_sem,seval,c4, *];exact⟨_,rfl⟩))
def Bi (O:av)(J:bp)(a2:aj)(V:Int×Int):Option ((Int×Int)⊕((Int×Int))):=
 cond (decide (V.2<((J.uses.getD []).length:Int)))
  (qc (qo (J.uses.getD []) V.2) fun eU=>
  qc (f182 O eU.k) fun v20=>
  qc (qo (O.ay.getD []) v20) fun v22=>
  cond (decide (v22.kind=a2))
   (En (.inl (qf .i64 (V.1+eU.n),qf .i64 (V.2+1))))
   (En (.inl (V.1,qf .i64 (V.2+1)))))
  (En (.inr (V.1,V.2)))
def Pe (O:av)(J:bp)(a2:aj)(V:Int×Int):bj:=⟨[(2,.str a2,Ep),(3,.aq (aR O),Ep),(4,.aq (aU J),Ep),(7,Iv V.1,Ep),(8,Iv V.2,Ep)],[]⟩
def Pg (O:av)(J:bp)(a2:aj)(d:(Int×Int)):jc×bj:=(.exit 0,⟨[(2,.str a2,Ep),(3,.aq (aR O),Ep),(4,.aq (aU J),Ep),(7,Iv d.1,Ep),(8,Iv d.2,Ep),(13,.bool Ep,Ep)],[]⟩)
theorem jsq (O:av)(J:bp)(a2:aj)(V:Int×Int)(r)(h:Bi O J a2 V=En r):js pr Ph (Pe O J a2) (Pg O J a2) V r:=by
 unfold Bi at h
 repeat' first|(replace h:=qd h;obtain⟨d,g,h⟩:=h;with_reducible first|replace g:=Kz g|skip)|(replace h:=qe h;rcases h with⟨g,h⟩|⟨g,h⟩)
 all_goals (cases h<;>((first|refine qw ?_|refine jy ?_);simp only[go_sem,seval,Ph,Pe,jn,Pg, *]<;>rfl))
theorem jt6 (O:av)(J:bp)(a2:aj){V d}(h:bu (Bi O J a2) V=En d):X pr (.loop Ph) (Pe O J a2 V)=En (Pg O J a2 d):=zq (jsq O J a2) h
def f251 (O:av)(J:bp)(a2:aj):Option Int:=
 qc (bu (Bi O J a2) (0,0)) fun d25=>
 En d25.1
theorem j9d {O J a2 r}(h:f251 O J a2=En r):ae pr (X pr) 251 [aR O,aU J,.str a2]=En (Iv r,Ep):=by
 unfold f251 at h;refine zd CM ?_
 repeat' first|(replace h:=qd h;obtain⟨d,g,h⟩:=h;with_reducible first|(replace g:=jt6 O J a2 g;dsimp only[Pe,Pg,zp]at g h)|skip)|(replace h:=qe h;rcases h with⟨g,h⟩|⟨g,h⟩)
 all_goals (cases h<;>(simp only[go_sem,seval,CM, *];exact⟨_,rfl⟩))
def f191 (O:av)(J:bp):Option b9:=
 qc (f183 O J.product) fun v1=>
 qc (qo (O.ah.getD []) v1) fun v3=>
 qc (qo (v3.bg.getD []) (qf .i64 (J.version-1))) fun v5=>
 En v5
theorem Pj {O J r}(h:f191 O J=En r):ae pr (X pr) 191 [aR O,aU J]=En (aD r,Ep):=by
 unfold f191 at h;refine zd CN ?_
 repeat' first|(replace h:=qd h;obtain⟨d,g,h⟩:=h;with_reducible first|replace g:=O7 g|skip)|(replace h:=qe h;rcases h with⟨g,h⟩|⟨g,h⟩)
 all_goals (cases h<;>(simp only[go_sem,seval,CN,jn, *];exact⟨_,rfl⟩))
def Be (O:bp)(J:jh)(V:Bool×Int):Option ((Bool×Int)⊕((Bool×Int))):=
 cond (decide (V.2<((O.results.getD []).length:Int)))
  (qc (qo (O.results.getD []) V.2) fun dm=>
  cond (decide (dm.k=J.k))
   (cond (decide (dm.a=O.version))
    (cond (decide (J.a<=dm.b))
     (En (.inl (decide (dm.b<=J.b),qf .i64 (V.2+1))))
     (En (.inl (Ep,qf .i64 (V.2+1)))))
    (En (.inl (V.1,qf .i64 (V.2+1)))))
   (En (.inl (V.1,qf .i64 (V.2+1)))))
  (En (.inr (V.1,V.2)))
def Pk (O:bp)(J:jh)(V:Bool×Int):bj:=⟨[(2,.aq (aU O),Ep),(3,.aq (aT J),Ep),(5,.bool V.1,Ep),(6,Iv V.2,Ep)],[]⟩
def Pl (O:bp)(J:jh)(d:(Bool×Int)):jc×bj:=(.exit 0,⟨[(2,.aq (aU O),Ep),(3,.aq (aT J),Ep),(5,.bool d.1,Ep),(6,Iv d.2,Ep),(12,.bool Ep,Ep)],[]⟩)
theorem jtp (O:bp)(J:jh)(V:Bool×Int)(r)(h:Be O J V=En r):js pr Pm (Pk O J) (Pl O J) V r:=by
 unfold Be at h
 repeat' first|(replace h:=qd h;obtain⟨d,g,h⟩:=h)|(replace h:=qe h;rcases h with⟨g,h⟩|⟨g,h⟩)
 all_goals (cases h<;>((first|refine qw ?_|refine jy ?_);simp only[go_sem,seval,Pm,Pk,jn,Pl, *]<;>rfl))
theorem jt9 (O:bp)(J:jh){V d}(h:bu (Be O J) V=En d):X pr (.loop Pm) (Pk O J V)=En (Pl O J d):=zq (jtp O J) h
def f252 (O:bp)(J:jh):Option Bool:=
 qc (bu (Be O J) (Ep,0)) fun d19=>
 En d19.1
theorem j48 {O J r}(h:f252 O J=En r):ae pr (X pr) 252 [aU O,aT J]=En (.bool r,Ep):=by
 unfold f252 at h;refine zd CO ?_
 repeat' first|(replace h:=qd h;obtain⟨d,g,h⟩:=h;with_reducible first|(replace g:=jt9 O J g;dsimp only[Pk,Pl,zp]at g h)|skip)|(replace h:=qe h;rcases h with⟨g,h⟩|⟨g,h⟩)
 all_goals (cases h<;>(simp only[go_sem,seval,CO, *];exact⟨_,rfl⟩))
def f192 (O:av)(J:bp):Option Int:=
 qc (f183 O J.product) fun v1=>
 qc (qo (O.ah.getD []) v1) fun v3=>
 En ((v3.bg.getD []).length:Int)
theorem jvh {O J r}(h:f192 O J=En r):ae pr (X pr) 192 [aR O,aU J]=En (Iv r,Ep):=by
 unfold f192 at h;refine zd CP ?_
 repeat' first|(replace h:=qd h;obtain⟨d,g,h⟩:=h;with_reducible first|replace g:=O7 g|skip)|(replace h:=qe h;rcases h with⟨g,h⟩|⟨g,h⟩)
 all_goals (cases h<;>(simp only[go_sem,seval,CP,jn, *];exact⟨_,rfl⟩))
def Bj (O:av)(J:bp)(v1:b9)(V:Int):Option (Int⊕(Unit⊕Int)):=
 cond (decide (V<((v1.aX.getD []).length:Int)))
  (qc (qo (v1.aX.getD []) V) fun dZ=>
  qc (f251 O J dZ.k) fun eU=>
  cond (decide (eU<dZ.n))
   (En (.inr (.inl ())))
   (En (.inl (qf .i64 (V+1)))))
  (En (.inr (.inr V)))
def Pn (O:av)(J:bp)(v1:b9)(V:Int):bj:=⟨[(2,.aq (aR O),Ep),(3,.aq (aU J),Ep),(5,.aq (aD v1),Ep),(6,Iv V,Ep)],[]⟩
def Po (O:av)(J:bp)(v1:b9):Unit⊕Int->jc×bj
 | .inl d=>(.ret,⟨[(4,.bool Ep,Ep)],[]⟩)| .inr d=>(.exit 0,⟨[(2,.aq (aR O),Ep),(3,.aq (aU J),Ep),(5,.aq (aD v1),Ep),(6,Iv d,Ep),(14,.bool Ep,Ep)],[]⟩)
theorem ju7 (O:av)(J:bp)(v1:b9)(V:Int)(r)(h:Bj O J v1 V=En r):js pr Pp (Pn O J v1) (Po O J v1) V r:=by
 unfold Bj at h
 repeat' first|(replace h:=qd h;obtain⟨d,g,h⟩:=h;with_reducible first|replace g:=j9d g|skip)|(replace h:=qe h;rcases h with⟨g,h⟩|⟨g,h⟩)
 all_goals (cases h<;>((first|refine qw ?_|refine jy ?_);simp only[go_sem,seval,Pp,Pn,jn,Po, *]<;>rfl))
theorem juj (O:av)(J:bp)(v1:b9){V d}(h:bu (Bj O J v1) V=En d):X pr (.loop Pp) (Pn O J v1 V)=En (Po O J v1 d):=zq (ju7 O J v1) h
def f232 (O:av)(J:bp):Option Bool:=
 qc (f191 O J) fun v1=>
 qc (bu (Bj O J v1) 0) fun d21=>match d21 with
  | .inl d23=>
   En Ep
  | .inr d24=>
   En E3
theorem j6k {O J r}(h:f232 O J=En r):ae pr (X pr) 232 [aR O,aU J]=En (.bool r,Ep):=by
 unfold f232 at h;refine zd CQ ?_
 repeat' first|(replace h:=qd h;obtain⟨d,g,h⟩:=h;with_reducible first|replace g:=Pj g|(replace g:=juj O J _ g;rcases d with d|d<;>dsimp only[Pn,Po,zp]at g h)|skip)|(replace h:=qe h;rcases h with⟨g,h⟩|⟨g,h⟩)
 all_goals (cases h<;>(simp only[go_sem,seval,CQ, *];exact⟨_,rfl⟩))
def Bh (J:bp)(v1:b9)(V:(ak aj)×Int×Bool):Option (((ak aj)×Int×Bool)⊕(((ak aj)×Bool×Int))):=
 cond (decide (V.2.1<((v1.aO.getD []).length:Int)))
  (qc (qo (v1.aO.getD []) V.2.1) fun v22=>
  qc (f252 J v22) fun v24=>
  cond v24
   (En (.inl (V.1,qf .i64 (V.2.1+1),V.2.2)))
   (cond V.2.2
    (qc (bB V.1 [v22.k]) fun v28=>
    En (.inl (v28,qf .i64 (V.2.1+1),E3)))
    (cond V.1.isNone
     (qc (bB V.1 [v22.k]) fun v31=>
     En (.inl (v31,qf .i64 (V.2.1+1),E3)))
     (E9))))
  (En (.inr (V.1,V.2.2,V.2.1)))
def Pq (J:bp)(v1:b9)(V:(ak aj)×Int×Bool):bj:=⟨[(3,.aq (aU J),Ep),(5,.aq (aD v1),Ep),(6,sl 1 jf V.1,V.2.2),(7,Iv V.2.1,Ep)],[]⟩
def Pr (J:bp)(v1:b9)(d:((ak aj)×Bool×Int)):jc×bj:=(.exit 0,⟨[(3,.aq (aU J),Ep),(5,.aq (aD v1),Ep),(6,sl 1 jf d.1,d.2.1),(7,Iv d.2.2,Ep),(15,.bool Ep,Ep)],[]⟩)
theorem jv8 (J:bp)(v1:b9)(V:(ak aj)×Int×Bool)(r)(h:Bh J v1 V=En r):js pr Ps (Pq J v1) (Pr J v1) V r:=by
 unfold Bh at h
 repeat' first|(replace h:=qd h;obtain⟨d,g,h⟩:=h;with_reducible first|replace g:=j48 g|replace g:=Fk g|skip)|(replace h:=qe h;rcases h with⟨g,h⟩|⟨g,h⟩)
 all_goals (cases h<;>((first|refine qw ?_|refine jy ?_);simp only[go_sem,seval,Ps,Pq,jn,Pr, *]<;>rfl))
theorem jv5 (J:bp)(v1:b9){V d}(h:bu (Bh J v1) V=En d):X pr (.loop Ps) (Pq J v1 V)=En (Pr J v1 d):=zq (jv8 J v1) h
def f233 (O:av)(J:bp):Option ((ak aj)×Bool):=
 qc (f191 O J) fun v1=>
 qc (bu (Bh J v1) (E9,0,Ep)) fun d33=>
 En (d33.1,d33.2.1)
theorem j72 {O J r}(h:f233 O J=En r):ae pr (X pr) 233 [aR O,aU J]=En (sl 1 jf r.1,r.2):=by
 unfold f233 at h;refine yf CR ?_
 repeat' first|(replace h:=qd h;obtain⟨d,g,h⟩:=h;with_reducible first|replace g:=Pj g|(replace g:=jv5 J _ g;dsimp only[Pq,Pr,zp]at g h)|skip)|(replace h:=qe h;rcases h with⟨g,h⟩|⟨g,h⟩)
 all_goals (cases h<;>(simp only[go_sem,seval,CR, *];exact⟨_,rfl⟩))
def yA (O:av)(J:bp)(V:Int):Option (Int⊕(Unit⊕Int)):=
 cond (decide (V<((J.uses.getD []).length:Int)))
  (qc (qo (J.uses.getD []) V) fun v28=>
  qc (f182 O v28.k) fun v30=>
  qc (qo (O.ay.getD []) v30) fun ie=>
  cond ie.held
   (En (.inr (.inl ())))
   (En (.inl (qf .i64 (V+1)))))
  (En (.inr (.inr V)))
def Pt (O:av)(J:bp)(V:Int):bj:=⟨[(2,.aq (aR O),Ep),(3,.aq (.agg [.str J.name,.str J.product,Iv J.version,sl 2 bz J.uses,sl 3 je J.results,.str J.partner,.bool Ep,Iv J.au]),Ep),(5,Iv V,Ep)],[]⟩
def Pu (O:av)(J:bp):Unit⊕Int->jc×bj
 | .inl d=>(.ret,⟨[(4,Iv 34,Ep)],[]⟩)| .inr d=>(.exit 0,⟨[(2,.aq (aR O),Ep),(3,.aq (.agg [.str J.name,.str J.product,Iv J.version,sl 2 bz J.uses,sl 3 je J.results,.str J.partner,.bool Ep,Iv J.au]),Ep),(5,Iv d,Ep),(27,.bool Ep,Ep)],[]⟩)
theorem jt7 (O:av)(J:bp)(V:Int)(r)(h:yA O J V=En r):js pr Pv (Pt O J) (Pu O J) V r:=by
 unfold yA at h
 repeat' first|(replace h:=qd h;obtain⟨d,g,h⟩:=h;with_reducible first|replace g:=Kz g|skip)|(replace h:=qe h;rcases h with⟨g,h⟩|⟨g,h⟩)
 all_goals (cases h<;>((first|refine qw ?_|refine jy ?_);simp only[go_sem,seval,Pv,Pt,jn,Pu, *]<;>rfl))
theorem jv9 (O:av)(J:bp){V d}(h:bu (yA O J) V=En d):X pr (.loop Pv) (Pt O J V)=En (Pu O J d):=zq (jt7 O J) h
def f193 (O:av)(J:bp):Option Int:=
 cond J.ax
  (En 21)
  (qc (f192 O (⟨J.name,J.product,J.version,J.uses,J.results,J.partner,Ep,J.au⟩)) fun v2=>
  cond (decide (J.version=v2))
   (qc (f232 O (⟨J.name,J.product,J.version,J.uses,J.results,J.partner,Ep,J.au⟩)) fun v5=>
   cond v5
    (qc (f233 O (⟨J.name,J.product,J.version,J.uses,J.results,J.partner,Ep,J.au⟩)) fun v8=>
    cond (decide (0<((v8.1.getD []).length:Int)))
     (En 31)
     (qc (bu (yA O J) 0) fun d35=>match d35 with
      | .inl d37=>
       En 34
      | .inr d38=>
       En 0))
    (En 20))
   (En 32))
theorem zbh {O J r}(h:f193 O J=En r):ae pr (X pr) 193 [.agg [.int .i64 O.day,sl 5 jd O.ay,sl 4 qz O.ah,sl 8 bC O.units],.agg [.str J.name,.str J.product,.int .i64 J.version,sl 2 bz J.uses,sl 3 je J.results,.str J.partner,.bool J.ax,.int .i64 J.au]]=En (.int .i64 r,Ep):=by
 unfold f193 at h;refine zd CS ?_
 repeat' first|(replace h:=qd h;obtain⟨d,g,h⟩:=h;with_reducible first|replace g:=jvh g|replace g:=j6k g|replace g:=j72 g|(replace g:=jv9 O J g;rcases d with d|d<;>dsimp only[Pt,Pu,zp]at g h)|skip)|(replace h:=qe h;rcases h with⟨g,h⟩|⟨g,h⟩)
 all_goals (cases h<;>(simp only[go_sem,seval,CS, *];exact⟨_,rfl⟩))
end Go.Z
namespace Go.Z
open Go Go.Abs Go.W
def f107 (O:Int)(J:Int)(a2:Int):Option Bool:=
 cond (decide (O<J))
  (En E3)
  (En (decide (a2<O)))
theorem WJ {O J a2 r}(h:f107 O J a2=En r):ae pr (X pr) 107 [Iv O,Iv J,Iv a2]=En (.bool r,Ep):=by
 unfold f107 at h;refine zd CT ?_
 repeat' first|(replace h:=qe h;rcases h with⟨g,h⟩|⟨g,h⟩)
 all_goals (cases h<;>(simp only[go_sem,seval,CT, *];exact⟨_,rfl⟩))
end Go.Z
namespace Go.Z
open Go Go.Abs Go.W
def f199 (O:Int)(J:av)(a2:aj):Option Bool:=
 qc (qo (J.ay.getD []) O) fun v1=>
 En (decide (v1.name=a2))
theorem j41 (hp:qi){O J a2 r}(h:f199 O J a2=En r):ai pr (X pr) 199 [Iv O,.aq (aR J),.aq (.str a2)] hp=En (.bool r,Ep,hp):=by
 unfold f199 at h;obtain⟨v1,I,h⟩:=qd h;have Q:decide (v1.name=a2)=r:=En.inj h;subst Q;rw[qh (show pr.bn 199=En CU from rfl) (by simp)];simp only[go_sem,seval,CU,jg I]<;>rfl
def I2 (O:Int)(aw:av)(bY:aj)(V:Int):Option (Int⊕(Int⊕Int)):=
 cond (decide (V<O))
  (qc (f199 V aw bY) fun v10=>
  cond v10
   (En (.inr (.inl V)))
   (En (.inl (qf .i64 (V+1)))))
  (En (.inr (.inr V)))
def Px (O:Int)(aw:av)(bY:aj)(V:Int):bj:=⟨[(1,.fn (.func 199) [] [.aq (aR aw),.aq (.str bY)],Ep),(5,Iv (-1),Ep),(7,Iv O,Ep),(8,Iv V,Ep)],[]⟩
def Py (O:Int)(aw:av)(bY:aj):Int⊕Int->jc×bj
 | .inl d=>(.exit 0,⟨[(5,Iv d,Ep)],[]⟩)| .inr d=>(.exit 0,⟨[(1,.fn (.func 199) [] [.aq (aR aw),.aq (.str bY)],Ep),(5,Iv (-1),Ep),(7,Iv O,Ep),(8,Iv d,Ep),(9,.bool Ep,Ep)],[]⟩)
theorem jok (O:Int)(aw:av)(bY:aj)(V:Int)(r)(h:I2 O aw bY V=En r):js pr vo (Px O aw bY) (Py O aw bY) V r:=by
 unfold I2 at h
 repeat' first|(replace h:=qd h;obtain⟨d,g,h⟩:=h;with_reducible first|replace g:=j41 [] g|skip)|(replace h:=qe h;rcases h with⟨g,h⟩|⟨g,h⟩)
 all_goals (cases h<;>((first|refine qw ?_|refine jy ?_);simp only[go_sem,seval,vo,Px,Py, *]<;>rfl))
theorem jp3 (O:Int)(aw:av)(bY:aj){V d}(h:bu (I2 O aw bY) V=En d):X pr (.loop vo) (Px O aw bY V)=En (Py O aw bY d):=zq (jok O aw bY) h
def I1 (O:Int)(aw:av)(bY:aj):Option Int:=
 qc (bu (I2 O aw bY) 0) fun d13=>match d13 with
  | .inl d15=>
   En d15
  | .inr d16=>
   En (-1)
theorem j1f {O aw bY r}(h:I1 O aw bY=En r):ae pr (X pr) 117 [Iv O,.fn (.func 199) [] [.aq (aR aw),.aq (.str bY)]]=En (Iv r,Ep):=by
 unfold I1 at h;refine zd ov ?_
 repeat' first|(replace h:=qd h;obtain⟨d,g,h⟩:=h;with_reducible first|(replace g:=jp3 O aw bY g;rcases d with d|d<;>dsimp only[Px,Py,zp]at g h)|skip)|(replace h:=qe h;rcases h with⟨g,h⟩|⟨g,h⟩)
 all_goals (cases h<;>(simp only[go_sem,seval,ov, *];exact⟨_,rfl⟩))
def f132 (O:av)(J:aj):Option Int:=
 qc (I1 ((O.ay.getD []).length:Int) O J) fun v1=>
 En v1
theorem Cm {O J r}(h:f132 O J=En r):ae pr (X pr) 132 [aR O,.str J]=En (Iv r,Ep):=by
 unfold f132 at h;refine zd CV ?_
 repeat' first|(replace h:=qd h;obtain⟨d,g,h⟩:=h;with_reducible first|replace g:=j1f g|skip)|(replace h:=qe h;rcases h with⟨g,h⟩|⟨g,h⟩)
 all_goals (cases h<;>(simp only[go_sem,seval,CV, *];exact⟨_,rfl⟩))
def f128 (O:Int)(J:av)(a2:aj):Option Bool:=
 qc (qo (J.ah.getD []) O) fun v1=>
 En (decide (v1.name=a2))
theorem j91 (hp:qi){O J a2 r}(h:f128 O J a2=En r):ai pr (X pr) 128 [Iv O,.aq (aR J),.aq (.str a2)] hp=En (.bool r,Ep,hp):=by
 unfold f128 at h;obtain⟨v1,I,h⟩:=qd h;have Q:decide (v1.name=a2)=r:=En.inj h;subst Q;rw[qh (show pr.bn 128=En CW from rfl) (by simp)];simp only[go_sem,seval,CW,jg I]<;>rfl
def I5 (O:Int)(aw:av)(bY:aj)(V:Int):Option (Int⊕(Int⊕Int)):=
 cond (decide (V<O))
  (qc (f128 V aw bY) fun v10=>
  cond v10
   (En (.inr (.inl V)))
   (En (.inl (qf .i64 (V+1)))))
  (En (.inr (.inr V)))
def Pz (O:Int)(aw:av)(bY:aj)(V:Int):bj:=⟨[(1,.fn (.func 128) [] [.aq (aR aw),.aq (.str bY)],Ep),(5,Iv (-1),Ep),(7,Iv O,Ep),(8,Iv V,Ep)],[]⟩
def PA (O:Int)(aw:av)(bY:aj):Int⊕Int->jc×bj
 | .inl d=>(.exit 0,⟨[(5,Iv d,Ep)],[]⟩)| .inr d=>(.exit 0,⟨[(1,.fn (.func 128) [] [.aq (aR aw),.aq (.str bY)],Ep),(5,Iv (-1),Ep),(7,Iv O,Ep),(8,Iv d,Ep),(9,.bool Ep,Ep)],[]⟩)
theorem jn2 (O:Int)(aw:av)(bY:aj)(V:Int)(r)(h:I5 O aw bY V=En r):js pr vo (Pz O aw bY) (PA O aw bY) V r:=by
 unfold I5 at h
 repeat' first|(replace h:=qd h;obtain⟨d,g,h⟩:=h;with_reducible first|replace g:=j91 [] g|skip)|(replace h:=qe h;rcases h with⟨g,h⟩|⟨g,h⟩)
 all_goals (cases h<;>((first|refine qw ?_|refine jy ?_);simp only[go_sem,seval,vo,Pz,PA, *]<;>rfl))
theorem jp0 (O:Int)(aw:av)(bY:aj){V d}(h:bu (I5 O aw bY) V=En d):X pr (.loop vo) (Pz O aw bY V)=En (PA O aw bY d):=zq (jn2 O aw bY) h
def I4 (O:Int)(aw:av)(bY:aj):Option Int:=
 qc (bu (I5 O aw bY) 0) fun d13=>match d13 with
  | .inl d15=>
   En d15
  | .inr d16=>
   En (-1)
theorem j0a {O aw bY r}(h:I4 O aw bY=En r):ae pr (X pr) 117 [Iv O,.fn (.func 128) [] [.aq (aR aw),.aq (.str bY)]]=En (Iv r,Ep):=by
 unfold I4 at h;refine zd ov ?_
 repeat' first|(replace h:=qd h;obtain⟨d,g,h⟩:=h;with_reducible first|(replace g:=jp0 O aw bY g;rcases d with d|d<;>dsimp only[Pz,PA,zp]at g h)|skip)|(replace h:=qe h;rcases h with⟨g,h⟩|⟨g,h⟩)
 all_goals (cases h<;>(simp only[go_sem,seval,ov, *];exact⟨_,rfl⟩))
def f58 (O:av)(J:aj):Option Int:=
 qc (I4 ((O.ah.getD []).length:Int) O J) fun v1=>
 En v1
theorem rE {O J r}(h:f58 O J=En r):ae pr (X pr) 58 [aR O,.str J]=En (Iv r,Ep):=by
 unfold f58 at h;refine zd WK ?_
 repeat' first|(replace h:=qd h;obtain⟨d,g,h⟩:=h;with_reducible first|replace g:=j0a g|skip)|(replace h:=qe h;rcases h with⟨g,h⟩|⟨g,h⟩)
 all_goals (cases h<;>(simp only[go_sem,seval,WK, *];exact⟨_,rfl⟩))
def f118 (O:Int)(J:av)(a2:aj):Option Bool:=
 qc (qo (J.units.getD []) O) fun v1=>
 En (decide (v1.name=a2))
theorem j8c (hp:qi){O J a2 r}(h:f118 O J a2=En r):ai pr (X pr) 118 [Iv O,.aq (aR J),.aq (.str a2)] hp=En (.bool r,Ep,hp):=by
 unfold f118 at h;obtain⟨v1,I,h⟩:=qd h;have Q:decide (v1.name=a2)=r:=En.inj h;subst Q;rw[qh (show pr.bn 118=En CX from rfl) (by simp)];simp only[go_sem,seval,CX,jg I]<;>rfl
def I7 (O:Int)(aw:av)(bY:aj)(V:Int):Option (Int⊕(Int⊕Int)):=
 cond (decide (V<O))
  (qc (f118 V aw bY) fun v10=>
  cond v10
   (En (.inr (.inl V)))
   (En (.inl (qf .i64 (V+1)))))
  (En (.inr (.inr V)))
def PB (O:Int)(aw:av)(bY:aj)(V:Int):bj:=⟨[(1,.fn (.func 118) [] [.aq (aR aw),.aq (.str bY)],Ep),(5,Iv (-1),Ep),(7,Iv O,Ep),(8,Iv V,Ep)],[]⟩
def PD (O:Int)(aw:av)(bY:aj):Int⊕Int->jc×bj
 | .inl d=>(.exit 0,⟨[(5,Iv d,Ep)],[]⟩)| .inr d=>(.exit 0,⟨[(1,.fn (.func 118) [] [.aq (aR aw),.aq (.str bY)],Ep),(5,Iv (-1),Ep),(7,Iv O,Ep),(8,Iv d,Ep),(9,.bool Ep,Ep)],[]⟩)
theorem jno (O:Int)(aw:av)(bY:aj)(V:Int)(r)(h:I7 O aw bY V=En r):js pr vo (PB O aw bY) (PD O aw bY) V r:=by
 unfold I7 at h
 repeat' first|(replace h:=qd h;obtain⟨d,g,h⟩:=h;with_reducible first|replace g:=j8c [] g|skip)|(replace h:=qe h;rcases h with⟨g,h⟩|⟨g,h⟩)
 all_goals (cases h<;>((first|refine qw ?_|refine jy ?_);simp only[go_sem,seval,vo,PB,PD, *]<;>rfl))
theorem jp5 (O:Int)(aw:av)(bY:aj){V d}(h:bu (I7 O aw bY) V=En d):X pr (.loop vo) (PB O aw bY V)=En (PD O aw bY d):=zq (jno O aw bY) h
def I6 (O:Int)(aw:av)(bY:aj):Option Int:=
 qc (bu (I7 O aw bY) 0) fun d13=>match d13 with
  | .inl d15=>
   En d15
  | .inr d16=>
   En (-1)
theorem jzi {O aw bY r}(h:I6 O aw bY=En r):ae pr (X pr) 117 [Iv O,.fn (.func 118) [] [.aq (aR aw),.aq (.str bY)]]=En (Iv r,Ep):=by
 unfold I6 at h;refine zd ov ?_
 repeat' first|(replace h:=qd h;obtain⟨d,g,h⟩:=h;with_reducible first|(replace g:=jp5 O aw bY g;rcases d with d|d<;>dsimp only[PB,PD,zp]at g h)|skip)|(replace h:=qe h;rcases h with⟨g,h⟩|⟨g,h⟩)
 all_goals (cases h<;>(simp only[go_sem,seval,ov, *];exact⟨_,rfl⟩))
def f49 (O:av)(J:aj):Option Int:=
 qc (I6 ((O.units.getD []).length:Int) O J) fun v1=>
 En v1
theorem tn {O J r}(h:f49 O J=En r):ae pr (X pr) 49 [aR O,.str J]=En (Iv r,Ep):=by
 unfold f49 at h;refine zd WL ?_
 repeat' first|(replace h:=qd h;obtain⟨d,g,h⟩:=h;with_reducible first|replace g:=jzi g|skip)|(replace h:=qe h;rcases h with⟨g,h⟩|⟨g,h⟩)
 all_goals (cases h<;>(simp only[go_sem,seval,WL, *];exact⟨_,rfl⟩))
def f70 (O:av)(J:Int)(a2:aj):Option Bool:=
 cond (decide (J=108))
  (qc (f132 O a2) fun v2=>
  En (decide (0<=v2)))
  (cond (decide (J=112))
   (qc (f58 O a2) fun v5=>
   En (decide (0<=v5)))
   (cond (decide (J=117))
    (qc (f49 O a2) fun v8=>
    En (decide (0<=v8)))
    (En E3)))
theorem W70 {O J a2 r}(h:f70 O J a2=En r):ae pr (X pr) 70 [aR O,.int .i32 J,.str a2]=En (.bool r,Ep):=by
 unfold f70 at h;refine zd tq ?_
 repeat' first|(replace h:=qd h;obtain⟨d,g,h⟩:=h;with_reducible first|replace g:=Cm g|replace g:=rE g|replace g:=tn g|skip)|(replace h:=qe h;rcases h with⟨g,h⟩|⟨g,h⟩)
 all_goals (cases h<;>(simp only[go_sem,seval,tq, *];exact⟨_,rfl⟩))
def f59 (O:bm):Option Int:=
 En ((O.bg.getD []).length:Int)
theorem VQ {O r}(h:f59 O=En r):ae pr (X pr) 59 [aP O]=En (Iv r,Ep):=by
 unfold f59 at h;have Q:((O.bg.getD []).length:Int)=r:=En.inj h;subst Q
 have this:∃hh,ai pr (X pr) 59 [aP O] []=En (Lv O.bg,Ep,hh):=by
  rw[qh (show pr.bn 59=En WM from rfl) (by simp)];simp only[go_sem,seval,WM];exact⟨_,rfl⟩
 obtain⟨hh,this⟩:=this;exact jo rfl this (by first|rfl|simp only[go_sem,seval]) (by first|rfl|simp only[go_sem,seval])
def f162 (O:av)(J:bp):Option Int:=
 qc (f58 O J.product) fun v1=>
 qc (qo (O.ah.getD []) v1) fun v3=>
 qc (f59 v3) fun v5=>
 En v5
theorem jsd {O J r}(h:f162 O J=En r):ae pr (X pr) 162 [aR O,aU J]=En (Iv r,Ep):=by
 unfold f162 at h;refine zd CY ?_
 repeat' first|(replace h:=qd h;obtain⟨d,g,h⟩:=h;with_reducible first|replace g:=rE g|replace g:=VQ g|skip)|(replace h:=qe h;rcases h with⟨g,h⟩|⟨g,h⟩)
 all_goals (cases h<;>(simp only[go_sem,seval,CY,jn, *];exact⟨_,rfl⟩))
def f123 (O:av)(J:bp):Option b9:=
 qc (f58 O J.product) fun v1=>
 qc (qo (O.ah.getD []) v1) fun v3=>
 qc (qo (v3.bg.getD []) (qf .i64 (J.version-1))) fun v5=>
 En v5
theorem PE {O J r}(h:f123 O J=En r):ae pr (X pr) 123 [aR O,aU J]=En (aD r,Ep):=by
 unfold f123 at h;refine zd CZ ?_
 repeat' first|(replace h:=qd h;obtain⟨d,g,h⟩:=h;with_reducible first|replace g:=rE g|skip)|(replace h:=qe h;rcases h with⟨g,h⟩|⟨g,h⟩)
 all_goals (cases h<;>(simp only[go_sem,seval,CZ,jn, *];exact⟨_,rfl⟩))
def Bf (O:bp)(J:jh)(V:Int×aj×Int×Int):Option ((Int×aj×Int×Int)⊕((Int×aj×Int×Int))):=
 cond (decide (V.1<((O.results.getD []).length:Int)))
  (qc (qo (O.results.getD []) V.1) fun v12=>
  cond (decide (v12.k=J.k))
   (cond (decide (v12.a=O.version))
    (En (.inl (qf .i64 (V.1+1),v12.k,v12.a,v12.b)))
    (En (.inl (qf .i64 (V.1+1),V.2.1,V.2.2.1,V.2.2.2))))
   (En (.inl (qf .i64 (V.1+1),V.2.1,V.2.2.1,V.2.2.2))))
  (En (.inr (V.1,V.2.1,V.2.2.1,V.2.2.2)))
def PF (O:bp)(J:jh)(V:Int×aj×Int×Int):bj:=⟨[(2,.aq (aU O),Ep),(3,.aq (aT J),Ep),(5,.ptr 0 0,Ep),(10,sl 3 je O.results,Ep),(11,Lv O.results,Ep),(12,Iv V.1,Ep)],[.cells [(.str V.2.1,Ep),(Iv V.2.2.1,Ep),(Iv V.2.2.2,Ep)]]⟩
def PG (O:bp)(J:jh)(d:(Int×aj×Int×Int)):jc×bj:=(.exit 0,⟨[(2,.aq (aU O),Ep),(3,.aq (aT J),Ep),(5,.ptr 0 0,Ep),(10,sl 3 je O.results,Ep),(11,Lv O.results,Ep),(12,Iv d.1,Ep),(13,.bool Ep,Ep)],[.cells [(.str d.2.1,Ep),(Iv d.2.2.1,Ep),(Iv d.2.2.2,Ep)]]⟩)
theorem jro (O:bp)(J:jh)(V:Int×aj×Int×Int)(r)(h:Bf O J V=En r):js pr PH (PF O J) (PG O J) V r:=by
 unfold Bf at h
 repeat' first|(replace h:=qd h;obtain⟨d,g,h⟩:=h)|(replace h:=qe h;rcases h with⟨g,h⟩|⟨g,h⟩)
 all_goals (cases h<;>((first|refine qw ?_|refine jy ?_);simp only[go_sem,seval,PH,PF,jn,PG, *]<;>rfl))
theorem jut (O:bp)(J:jh){V d}(h:bu (Bf O J) V=En d):X pr (.loop PH) (PF O J V)=En (PG O J d):=zq (jro O J) h
def f125 (O:bp)(J:jh):Option Bool:=
 qc (bu (Bf O J) (0,[],(-1),0)) fun d16=>
 cond (decide (d16.2.1=[])&&decide (d16.2.2.1=(-1))&&decide (d16.2.2.2=0))
  (En Ep)
  (cond (decide (J.a<=d16.2.2.2))
   (En (decide (d16.2.2.2<=J.b)))
   (En Ep))
theorem j46 {O J r}(h:f125 O J=En r):ae pr (X pr) 125 [aU O,aT J]=En (.bool r,Ep):=by
 unfold f125 at h;refine zd C4 ?_
 repeat' first|(replace h:=qd h;obtain⟨d,g,h⟩:=h;with_reducible first|(replace g:=jut O J g;dsimp only[PF,PG,zp]at g h)|skip)|(replace h:=qe h;rcases h with⟨g,h⟩|⟨g,h⟩)
 all_goals (cases h<;>(simp only[go_sem,seval,C4, *];exact⟨_,rfl⟩))
def f124 (O:jh)(J:bp):Option Bool:=
 qc (f125 J O) fun v1=>
 En (!v1)
theorem j74 (hp:qi){O J r}(h:f124 O J=En r):ai pr (X pr) 124 [aT O,.aq (aU J)] hp=En (.bool r,Ep,hp):=by
 unfold f124 at h;obtain⟨v1,I,h⟩:=qd h;have iY:ae pr (X pr) 125 [aU J,aT O]=En (.bool v1,Ep):=j46 I;have Q:(!v1)=r:=En.inj h;subst Q;rw[qh (show pr.bn 124=En C5 from rfl) (by simp)];simp only[go_sem,seval,C5,iY]<;>rfl
def I8 (O:ak jh)(aw:bp)(V:(ak jh)×Int×Bool):Option (((ak jh)×Int×Bool)⊕(((ak jh)×Bool×Int))):=
 cond (decide (V.2.1<((O.getD []).length:Int)))
  (qc (qo (O.getD []) V.2.1) fun v20=>
  qc (f124 v20 aw) fun v22=>
  cond v22
   (cond V.2.2
    (qc (bB V.1 [v20]) fun v26=>
    En (.inl (v26,qf .i64 (V.2.1+1),E3)))
    (cond V.1.isNone
     (qc (bB V.1 [v20]) fun et=>
     En (.inl (et,qf .i64 (V.2.1+1),E3)))
     (E9)))
   (En (.inl (V.1,qf .i64 (V.2.1+1),V.2.2))))
  (En (.inr (V.1,V.2.2,V.2.1)))
def PI (O:ak jh)(aw:bp)(V:(ak jh)×Int×Bool):bj:=⟨[(1,.fn (.func 124) [] [.aq (aU aw)],Ep),(5,sl 3 je V.1,V.2.2),(8,sl 3 je O,Ep),(9,Lv O,Ep),(10,Iv V.2.1,Ep)],[]⟩
def PJ (O:ak jh)(aw:bp)(d:((ak jh)×Bool×Int)):jc×bj:=(.exit 0,⟨[(1,.fn (.func 124) [] [.aq (aU aw)],Ep),(5,sl 3 je d.1,d.2.1),(8,sl 3 je O,Ep),(9,Lv O,Ep),(10,Iv d.2.2,Ep),(11,.bool Ep,Ep)],[]⟩)
theorem jvp (O:ak jh)(aw:bp)(V:(ak jh)×Int×Bool)(r)(h:I8 O aw V=En r):js pr PK (PI O aw) (PJ O aw) V r:=by
 unfold I8 at h
 repeat' first|(replace h:=qd h;obtain⟨d,g,h⟩:=h;with_reducible first|replace g:=j74 [] g|replace g:=Fj g|skip)|(replace h:=qe h;rcases h with⟨g,h⟩|⟨g,h⟩)
 all_goals (cases h<;>((first|refine qw ?_|refine jy ?_);simp only[go_sem,seval,PK,PI,jn,PJ, *]<;>rfl))
theorem jsj (O:ak jh)(aw:bp){V d}(h:bu (I8 O aw) V=En d):X pr (.loop PK) (PI O aw V)=En (PJ O aw d):=zq (jvp O aw) h
def f122 (O:ak jh)(aw:bp):Option ((ak jh)×Bool):=
 qc (bu (I8 O aw) (E9,0,Ep)) fun d31=>
 En (d31.1,d31.2.1)
theorem j71 {O aw r}(h:f122 O aw=En r):ae pr (X pr) 122 [sl 3 je O,.fn (.func 124) [] [.aq (aU aw)]]=En (sl 3 je r.1,r.2):=by
 unfold f122 at h;refine yf C6 ?_
 repeat' first|(replace h:=qd h;obtain⟨d,g,h⟩:=h;with_reducible first|(replace g:=jsj O aw g;dsimp only[PI,PJ,zp]at g h)|skip)|(replace h:=qe h;rcases h with⟨g,h⟩|⟨g,h⟩)
 all_goals (cases h<;>(simp only[go_sem,seval,C6, *];exact⟨_,rfl⟩))
def f127 (O:jh):Option aj:=
 En O.k
theorem zae (hp:qi){O r}(h:f127 O=En r):ai pr (X pr) 127 [aT O] hp=En (.str r,Ep,hp):=by
 unfold f127 at h;have Q:O.k=r:=En.inj h;subst Q;rw[qh (show pr.bn 127=En C7 from rfl) (by simp)];simp only[go_sem,seval,C7]<;>rfl
def I9 (O:ak jh)(V:(ak aj)×Int×Bool):Option (((ak aj)×Int×Bool)⊕(((ak aj)×Bool×Int))):=
 cond (decide (V.2.1<((O.getD []).length:Int)))
  (qc (qo (O.getD []) V.2.1) fun eU=>
  qc (f127 eU) fun v20=>
  cond V.2.2
   (qc (bB V.1 [v20]) fun v23=>
   En (.inl (v23,qf .i64 (V.2.1+1),E3)))
   (cond V.1.isNone
    (qc (bB V.1 [v20]) fun v26=>
    En (.inl (v26,qf .i64 (V.2.1+1),E3)))
    (E9)))
  (En (.inr (V.1,V.2.2,V.2.1)))
def PL (O:ak jh)(V:(ak aj)×Int×Bool):bj:=⟨[(1,.fn (.func 127) [] [],Ep),(5,sl 1 jf V.1,V.2.2),(8,sl 3 je O,Ep),(9,Lv O,Ep),(10,Iv V.2.1,Ep)],[]⟩
def PN (O:ak jh)(d:((ak aj)×Bool×Int)):jc×bj:=(.exit 0,⟨[(1,.fn (.func 127) [] [],Ep),(5,sl 1 jf d.1,d.2.1),(8,sl 3 je O,Ep),(9,Lv O,Ep),(10,Iv d.2.2,Ep),(11,.bool Ep,Ep)],[]⟩)
theorem js0 (O:ak jh)(V:(ak aj)×Int×Bool)(r)(h:I9 O V=En r):js pr PO (PL O) (PN O) V r:=by
 unfold I9 at h
 repeat' first|(replace h:=qd h;obtain⟨d,g,h⟩:=h;with_reducible first|replace g:=zae [] g|replace g:=Fk g|skip)|(replace h:=qe h;rcases h with⟨g,h⟩|⟨g,h⟩)
 all_goals (cases h<;>((first|refine qw ?_|refine jy ?_);simp only[go_sem,seval,PO,PL,jn,PN, *]<;>rfl))
theorem jvk (O:ak jh){V d}(h:bu (I9 O) V=En d):X pr (.loop PO) (PL O V)=En (PN O d):=zq (js0 O) h
def f126 (O:ak jh):Option ((ak aj)×Bool):=
 qc (bu (I9 O) (E9,0,Ep)) fun d28=>
 En (d28.1,d28.2.1)
theorem zap {O r}(h:f126 O=En r):ae pr (X pr) 126 [sl 3 je O,.fn (.func 127) [] []]=En (sl 1 jf r.1,r.2):=by
 unfold f126 at h;refine yf C8 ?_
 repeat' first|(replace h:=qd h;obtain⟨d,g,h⟩:=h;with_reducible first|(replace g:=jvk O g;dsimp only[PL,PN,zp]at g h)|skip)|(replace h:=qe h;rcases h with⟨g,h⟩|⟨g,h⟩)
 all_goals (cases h<;>(simp only[go_sem,seval,C8, *];exact⟨_,rfl⟩))
def f54 (O:av)(J:bp):Option ((ak aj)×Bool):=
 qc (f123 O J) fun v1=>
 qc (f122 v1.aO J) fun v3=>
 qc (f126 v3.1) fun v5=>
 En (v5.1,v5.2)
theorem W54 {O J r}(h:f54 O J=En r):ae pr (X pr) 54 [aR O,aU J]=En (sl 1 jf r.1,r.2):=by
 unfold f54 at h;refine yf WN ?_
 repeat' first|(replace h:=qd h;obtain⟨d,g,h⟩:=h;with_reducible first|replace g:=PE g|replace g:=j71 g|replace g:=zap g|skip)|(replace h:=qe h;rcases h with⟨g,h⟩|⟨g,h⟩)
 all_goals (cases h<;>(simp only[go_sem,seval,WN, *];exact⟨_,rfl⟩))
def f120 (O:bD):Option aj:=
 En O.k
theorem j9h (hp:qi){O r}(h:f120 O=En r):ai pr (X pr) 120 [aN O] hp=En (.str r,Ep,hp):=by
 unfold f120 at h;have Q:O.k=r:=En.inj h;subst Q;rw[qh (show pr.bn 120=En C9 from rfl) (by simp)];simp only[go_sem,seval,C9]<;>rfl
def Jx (O:ak bD)(V:(ak aj)×Int×Bool):Option (((ak aj)×Int×Bool)⊕(((ak aj)×Bool×Int))):=
 cond (decide (V.2.1<((O.getD []).length:Int)))
  (qc (qo (O.getD []) V.2.1) fun eU=>
  qc (f120 eU) fun v20=>
  cond V.2.2
   (qc (bB V.1 [v20]) fun v23=>
   En (.inl (v23,qf .i64 (V.2.1+1),E3)))
   (cond V.1.isNone
    (qc (bB V.1 [v20]) fun v26=>
    En (.inl (v26,qf .i64 (V.2.1+1),E3)))
    (E9)))
  (En (.inr (V.1,V.2.2,V.2.1)))
def PP (O:ak bD)(V:(ak aj)×Int×Bool):bj:=⟨[(1,.fn (.func 120) [] [],Ep),(5,sl 1 jf V.1,V.2.2),(8,sl 2 bz O,Ep),(9,Lv O,Ep),(10,Iv V.2.1,Ep)],[]⟩
def PQ (O:ak bD)(d:((ak aj)×Bool×Int)):jc×bj:=(.exit 0,⟨[(1,.fn (.func 120) [] [],Ep),(5,sl 1 jf d.1,d.2.1),(8,sl 2 bz O,Ep),(9,Lv O,Ep),(10,Iv d.2.2,Ep),(11,.bool Ep,Ep)],[]⟩)
theorem jtq (O:ak bD)(V:(ak aj)×Int×Bool)(r)(h:Jx O V=En r):js pr PR (PP O) (PQ O) V r:=by
 unfold Jx at h
 repeat' first|(replace h:=qd h;obtain⟨d,g,h⟩:=h;with_reducible first|replace g:=j9h [] g|replace g:=Fk g|skip)|(replace h:=qe h;rcases h with⟨g,h⟩|⟨g,h⟩)
 all_goals (cases h<;>((first|refine qw ?_|refine jy ?_);simp only[go_sem,seval,PR,PP,jn,PQ, *]<;>rfl))
theorem jur (O:ak bD){V d}(h:bu (Jx O) V=En d):X pr (.loop PR) (PP O V)=En (PQ O d):=zq (jtq O) h
def f119 (O:ak bD):Option ((ak aj)×Bool):=
 qc (bu (Jx O) (E9,0,Ep)) fun d28=>
 En (d28.1,d28.2.1)
theorem j97 {O r}(h:f119 O=En r):ae pr (X pr) 119 [sl 2 bz O,.fn (.func 120) [] []]=En (sl 1 jf r.1,r.2):=by
 unfold f119 at h;refine yf Da ?_
 repeat' first|(replace h:=qd h;obtain⟨d,g,h⟩:=h;with_reducible first|(replace g:=jur O g;dsimp only[PP,PQ,zp]at g h)|skip)|(replace h:=qe h;rcases h with⟨g,h⟩|⟨g,h⟩)
 all_goals (cases h<;>(simp only[go_sem,seval,Da, *];exact⟨_,rfl⟩))
def f50 (O:bp):Option ((ak aj)×Bool):=
 qc (f119 O.uses) fun v1=>
 En (v1.1,v1.2)
theorem W50 {O r}(h:f50 O=En r):ae pr (X pr) 50 [aU O]=En (sl 1 jf r.1,r.2):=by
 unfold f50 at h;refine yf WO ?_
 repeat' first|(replace h:=qd h;obtain⟨d,g,h⟩:=h;with_reducible first|replace g:=j97 g|skip)|(replace h:=qe h;rcases h with⟨g,h⟩|⟨g,h⟩)
 all_goals (cases h<;>(simp only[go_sem,seval,WO, *];exact⟨_,rfl⟩))
def f121 (O:bp)(J:aj):Option Bool:=
 qc (f50 O) fun v1=>
 qc (f69 v1.1 J) fun v3=>
 En v3
theorem j7q (hp:qi){O J r}(h:f121 O J=En r):ai pr (X pr) 121 [aU O,.aq (.str J)] hp=En (.bool r,Ep,hp):=by
 unfold f121 at h;rw[qh (show pr.bn 121=En Db from rfl) (by simp)]
 repeat' first|(replace h:=qd h;obtain⟨d,g,h⟩:=h;with_reducible first|replace g:=W50 g|replace g:=NR g|skip)|(replace h:=qe h;rcases h with⟨g,h⟩|⟨g,h⟩)
 all_goals (cases h<;>(simp only[go_sem,seval,Db, *]<;>rfl))
def Jy (O:ak bp)(aw:aj)(V:(ak bp)×Int×Bool):Option (((ak bp)×Int×Bool)⊕(((ak bp)×Bool×Int))):=
 cond (decide (V.2.1<((O.getD []).length:Int)))
  (qc (qo (O.getD []) V.2.1) fun v20=>
  qc (f121 v20 aw) fun v22=>
  cond v22
   (cond V.2.2
    (qc (bB V.1 [v20]) fun v26=>
    En (.inl (v26,qf .i64 (V.2.1+1),E3)))
    (cond V.1.isNone
     (qc (bB V.1 [v20]) fun et=>
     En (.inl (et,qf .i64 (V.2.1+1),E3)))
     (E9)))
   (En (.inl (V.1,qf .i64 (V.2.1+1),V.2.2))))
  (En (.inr (V.1,V.2.2,V.2.1)))
def PS (O:ak bp)(aw:aj)(V:(ak bp)×Int×Bool):bj:=⟨[(1,.fn (.func 121) [] [.aq (.str aw)],Ep),(5,sl 8 bC V.1,V.2.2),(8,sl 8 bC O,Ep),(9,Lv O,Ep),(10,Iv V.2.1,Ep)],[]⟩
def PT (O:ak bp)(aw:aj)(d:((ak bp)×Bool×Int)):jc×bj:=(.exit 0,⟨[(1,.fn (.func 121) [] [.aq (.str aw)],Ep),(5,sl 8 bC d.1,d.2.1),(8,sl 8 bC O,Ep),(9,Lv O,Ep),(10,Iv d.2.2,Ep),(11,.bool Ep,Ep)],[]⟩)
theorem j09 (O:ak bp)(aw:aj)(V:(ak bp)×Int×Bool)(r)(h:Jy O aw V=En r):js pr Cb (PS O aw) (PT O aw) V r:=by
 unfold Jy at h
 repeat' first|(replace h:=qd h;obtain⟨d,g,h⟩:=h;with_reducible first|replace g:=j7q [] g|replace g:=M7 g|skip)|(replace h:=qe h;rcases h with⟨g,h⟩|⟨g,h⟩)
 all_goals (cases h<;>((first|refine qw ?_|refine jy ?_);simp only[go_sem,seval,Cb,PS,jn,PT, *]<;>rfl))
theorem j0r (O:ak bp)(aw:aj){V d}(h:bu (Jy O aw) V=En d):X pr (.loop Cb) (PS O aw V)=En (PT O aw d):=zq (j09 O aw) h
def f62 (O:ak bp)(aw:aj):Option ((ak bp)×Bool):=
 qc (bu (Jy O aw) (E9,0,Ep)) fun d31=>
 En (d31.1,d31.2.1)
theorem W62 {O aw r}(h:f62 O aw=En r):ae pr (X pr) 62 [sl 8 bC O,.fn (.func 121) [] [.aq (.str aw)]]=En (sl 8 bC r.1,r.2):=by
 unfold f62 at h;refine yf JQ ?_
 repeat' first|(replace h:=qd h;obtain⟨d,g,h⟩:=h;with_reducible first|(replace g:=j0r O aw g;dsimp only[PS,PT,zp]at g h)|skip)|(replace h:=qe h;rcases h with⟨g,h⟩|⟨g,h⟩)
 all_goals (cases h<;>(simp only[go_sem,seval,JQ, *];exact⟨_,rfl⟩))
def f64 (O:bp):Option aj:=
 En O.name
theorem W64 (hp:qi){O r}(h:f64 O=En r):ai pr (X pr) 64 [aU O] hp=En (.str r,Ep,hp):=by
 unfold f64 at h;have Q:O.name=r:=En.inj h;subst Q;rw[qh (show pr.bn 64=En WQ from rfl) (by simp)];simp only[go_sem,seval,WQ]<;>rfl
def FF (O:ak bp)(V:(ak aj)×Int×Bool):Option (((ak aj)×Int×Bool)⊕(((ak aj)×Bool×Int))):=
 cond (decide (V.2.1<((O.getD []).length:Int)))
  (qc (qo (O.getD []) V.2.1) fun eU=>
  qc (f64 eU) fun v20=>
  cond V.2.2
   (qc (bB V.1 [v20]) fun v23=>
   En (.inl (v23,qf .i64 (V.2.1+1),E3)))
   (cond V.1.isNone
    (qc (bB V.1 [v20]) fun v26=>
    En (.inl (v26,qf .i64 (V.2.1+1),E3)))
    (E9)))
  (En (.inr (V.1,V.2.2,V.2.1)))
def PU (O:ak bp)(V:(ak aj)×Int×Bool):bj:=⟨[(1,.fn (.func 64) [] [],Ep),(5,sl 1 jf V.1,V.2.2),(8,sl 8 bC O,Ep),(9,Lv O,Ep),(10,Iv V.2.1,Ep)],[]⟩
def PV (O:ak bp)(d:((ak aj)×Bool×Int)):jc×bj:=(.exit 0,⟨[(1,.fn (.func 64) [] [],Ep),(5,sl 1 jf d.1,d.2.1),(8,sl 8 bC O,Ep),(9,Lv O,Ep),(10,Iv d.2.2,Ep),(11,.bool Ep,Ep)],[]⟩)
theorem j1t (O:ak bp)(V:(ak aj)×Int×Bool)(r)(h:FF O V=En r):js pr PW (PU O) (PV O) V r:=by
 unfold FF at h
 repeat' first|(replace h:=qd h;obtain⟨d,g,h⟩:=h;with_reducible first|replace g:=W64 [] g|replace g:=Fk g|skip)|(replace h:=qe h;rcases h with⟨g,h⟩|⟨g,h⟩)
 all_goals (cases h<;>((first|refine qw ?_|refine jy ?_);simp only[go_sem,seval,PW,PU,jn,PV, *]<;>rfl))
theorem jyk (O:ak bp){V d}(h:bu (FF O) V=En d):X pr (.loop PW) (PU O V)=En (PV O d):=zq (j1t O) h
def f61 (O:ak bp):Option ((ak aj)×Bool):=
 qc (bu (FF O) (E9,0,Ep)) fun d28=>
 En (d28.1,d28.2.1)
theorem W61 {O r}(h:f61 O=En r):ae pr (X pr) 61 [sl 8 bC O,.fn (.func 64) [] []]=En (sl 1 jf r.1,r.2):=by
 unfold f61 at h;refine yf WR ?_
 repeat' first|(replace h:=qd h;obtain⟨d,g,h⟩:=h;with_reducible first|(replace g:=jyk O g;dsimp only[PU,PV,zp]at g h)|skip)|(replace h:=qe h;rcases h with⟨g,h⟩|⟨g,h⟩)
 all_goals (cases h<;>(simp only[go_sem,seval,WR, *];exact⟨_,rfl⟩))
def f52 (O:av)(J:aj):Option ((ak aj)×Bool):=
 qc (f62 O.units J) fun v1=>
 qc (f61 v1.1) fun v3=>
 En (v3.1,v3.2)
theorem W52 {O J r}(h:f52 O J=En r):ae pr (X pr) 52 [aR O,.str J]=En (sl 1 jf r.1,r.2):=by
 unfold f52 at h;refine yf WS ?_
 repeat' first|(replace h:=qd h;obtain⟨d,g,h⟩:=h;with_reducible first|replace g:=W62 g|replace g:=W61 g|skip)|(replace h:=qe h;rcases h with⟨g,h⟩|⟨g,h⟩)
 all_goals (cases h<;>(simp only[go_sem,seval,WS, *];exact⟨_,rfl⟩))
def yQ (O:av)(J:aj)(V:Int×Int):Option ((Int×Int)⊕((Int×Int))):=
 cond (decide (V.2<((O.ay.getD []).length:Int)))
  (qc (qo (O.ay.getD []) V.2) fun v12=>
  cond (decide (v12.kind=J))
   (cond v12.held
    (En (.inl (V.1,qf .i64 (V.2+1))))
    (En (.inl (qf .i64 (V.1+v12.left),qf .i64 (V.2+1)))))
   (En (.inl (V.1,qf .i64 (V.2+1)))))
  (En (.inr (V.1,V.2)))
def PX (O:av)(J:aj)(V:Int×Int):bj:=⟨[(1,.str J,Ep),(5,Iv V.1,Ep),(9,sl 5 jd O.ay,Ep),(10,Lv O.ay,Ep),(11,Iv V.2,Ep)],[]⟩
def PY (O:av)(J:aj)(d:(Int×Int)):jc×bj:=(.exit 0,⟨[(1,.str J,Ep),(5,Iv d.1,Ep),(9,sl 5 jd O.ay,Ep),(10,Lv O.ay,Ep),(11,Iv d.2,Ep),(12,.bool Ep,Ep)],[]⟩)
theorem j0u (O:av)(J:aj)(V:Int×Int)(r)(h:yQ O J V=En r):js pr PZ (PX O J) (PY O J) V r:=by
 unfold yQ at h
 repeat' first|(replace h:=qd h;obtain⟨d,g,h⟩:=h)|(replace h:=qe h;rcases h with⟨g,h⟩|⟨g,h⟩)
 all_goals (cases h<;>((first|refine qw ?_|refine jy ?_);simp only[go_sem,seval,PZ,PX,jn,PY, *]<;>rfl))
theorem jz0 (O:av)(J:aj){V d}(h:bu (yQ O J) V=En d):X pr (.loop PZ) (PX O J V)=En (PY O J d):=zq (j0u O J) h
def f56 (O:av)(J:aj):Option Int:=
 qc (bu (yQ O J) (0,0)) fun d16=>
 En d16.1
theorem W56 {O J r}(h:f56 O J=En r):ae pr (X pr) 56 [aR O,.str J]=En (Iv r,Ep):=by
 unfold f56 at h;refine zd WT ?_
 repeat' first|(replace h:=qd h;obtain⟨d,g,h⟩:=h;with_reducible first|(replace g:=jz0 O J g;dsimp only[PX,PY,zp]at g h)|skip)|(replace h:=qe h;rcases h with⟨g,h⟩|⟨g,h⟩)
 all_goals (cases h<;>(simp only[go_sem,seval,WT, *];exact⟨_,rfl⟩))
end Go.Z
namespace Go.Z
open Go Go.Abs Go.W
def f200 (O:ak ji):Option ((ak ji)×Bool):=
 cond O.isNone
  (En (E9,Ep))
  (qc (bB (En []) (O.getD [])) fun v2=>
  En (v2,E3))
theorem j9j {O r}(h:f200 O=En r):ae pr (X pr) 200 [sl 5 jd O]=En (sl 5 jd r.1,r.2):=by
 unfold f200 at h;refine yf Dc ?_
 repeat' first|(replace h:=qd h;obtain⟨d,g,h⟩:=h)|(replace h:=qe h;rcases h with⟨g,h⟩|⟨g,h⟩)
 all_goals (cases h<;>(simp only[go_sem,seval,Dc,nv, *];exact⟨_,rfl⟩))
def f201 (O:ak bm):Option ((ak bm)×Bool):=
 cond O.isNone
  (En (E9,Ep))
  (qc (bB (En []) (O.getD [])) fun v2=>
  En (v2,E3))
theorem za7 {O r}(h:f201 O=En r):ae pr (X pr) 201 [sl 4 qz O]=En (sl 4 qz r.1,r.2):=by
 unfold f201 at h;refine yf Dd ?_
 repeat' first|(replace h:=qd h;obtain⟨d,g,h⟩:=h)|(replace h:=qe h;rcases h with⟨g,h⟩|⟨g,h⟩)
 all_goals (cases h<;>(simp only[go_sem,seval,Dd,nv, *];exact⟨_,rfl⟩))
def f214 (O:ak bp):Option ((ak bp)×Bool):=
 cond O.isNone
  (En (E9,Ep))
  (qc (bB (En []) (O.getD [])) fun v2=>
  En (v2,E3))
theorem zas {O r}(h:f214 O=En r):ae pr (X pr) 214 [sl 8 bC O]=En (sl 8 bC r.1,r.2):=by
 unfold f214 at h;refine yf De ?_
 repeat' first|(replace h:=qd h;obtain⟨d,g,h⟩:=h)|(replace h:=qe h;rcases h with⟨g,h⟩|⟨g,h⟩)
 all_goals (cases h<;>(simp only[go_sem,seval,De,nv, *];exact⟨_,rfl⟩))
def f211 (O:ak b9):Option ((ak b9)×Bool):=
 cond O.isNone
  (En (E9,Ep))
  (qc (bB (En []) (O.getD [])) fun v2=>
  En (v2,E3))
theorem j6d {O r}(h:f211 O=En r):ae pr (X pr) 211 [sl 2 yr O]=En (sl 2 yr r.1,r.2):=by
 unfold f211 at h;refine yf Df ?_
 repeat' first|(replace h:=qd h;obtain⟨d,g,h⟩:=h)|(replace h:=qe h;rcases h with⟨g,h⟩|⟨g,h⟩)
 all_goals (cases h<;>(simp only[go_sem,seval,Df,nv, *];exact⟨_,rfl⟩))
def f212 (O:ak bD):Option ((ak bD)×Bool):=
 cond O.isNone
  (En (E9,Ep))
  (qc (bB (En []) (O.getD [])) fun v2=>
  En (v2,E3))
theorem jvt {O r}(h:f212 O=En r):ae pr (X pr) 212 [sl 2 bz O]=En (sl 2 bz r.1,r.2):=by
 unfold f212 at h;refine yf Dg ?_
 repeat' first|(replace h:=qd h;obtain⟨d,g,h⟩:=h)|(replace h:=qe h;rcases h with⟨g,h⟩|⟨g,h⟩)
 all_goals (cases h<;>(simp only[go_sem,seval,Dg,nv, *];exact⟨_,rfl⟩))
def f213 (O:ak jh):Option ((ak jh)×Bool):=
 cond O.isNone
  (En (E9,Ep))
  (qc (bB (En []) (O.getD [])) fun v2=>
  En (v2,E3))
theorem jvd {O r}(h:f213 O=En r):ae pr (X pr) 213 [sl 3 je O]=En (sl 3 je r.1,r.2):=by
 unfold f213 at h;refine yf Dh ?_
 repeat' first|(replace h:=qd h;obtain⟨d,g,h⟩:=h)|(replace h:=qe h;rcases h with⟨g,h⟩|⟨g,h⟩)
 all_goals (cases h<;>(simp only[go_sem,seval,Dh,nv, *];exact⟨_,rfl⟩))
def f218 (O:ak jh):Option ((ak jh)×Bool):=
 cond O.isNone
  (En (E9,Ep))
  (qc (bB (En []) (O.getD [])) fun v2=>
  En (v2,E3))
theorem j45 {O r}(h:f218 O=En r):ae pr (X pr) 218 [sl 3 je O]=En (sl 3 je r.1,r.2):=by
 unfold f218 at h;refine yf Di ?_
 repeat' first|(replace h:=qd h;obtain⟨d,g,h⟩:=h)|(replace h:=qe h;rcases h with⟨g,h⟩|⟨g,h⟩)
 all_goals (cases h<;>(simp only[go_sem,seval,Di,nv, *];exact⟨_,rfl⟩))
def f239 (O:ak bD):Option ((ak bD)×Bool):=
 cond O.isNone
  (En (E9,Ep))
  (qc (bB (En []) (O.getD [])) fun v2=>
  En (v2,E3))
theorem j49 {O r}(h:f239 O=En r):ae pr (X pr) 239 [sl 2 bz O]=En (sl 2 bz r.1,r.2):=by
 unfold f239 at h;refine yf Dj ?_
 repeat' first|(replace h:=qd h;obtain⟨d,g,h⟩:=h)|(replace h:=qe h;rcases h with⟨g,h⟩|⟨g,h⟩)
 all_goals (cases h<;>(simp only[go_sem,seval,Dj,nv, *];exact⟨_,rfl⟩))
def f133 (O:ak ji)(J:ji):Option (ak ji):=
 qc (f200 O) fun v1=>
 cond v1.2
  (qc (bB v1.1 [J]) fun v4=>
  En v4)
  (cond v1.1.isNone
   (qc (bB v1.1 [J]) fun v7=>
   En v7)
   (E9))
theorem j5t {O J r}(h:f133 O J=En r):ae pr (X pr) 133 [sl 5 jd O,aL J]=En (sl 5 jd r,E3):=by
 unfold f133 at h;refine yf Dk ?_
 repeat' first|(replace h:=qd h;obtain⟨d,g,h⟩:=h;with_reducible first|replace g:=j9j g|replace g:=T1 g|skip)|(replace h:=qe h;rcases h with⟨g,h⟩|⟨g,h⟩)
 all_goals (cases h<;>(simp only[go_sem,seval,Dk, *];exact⟨_,rfl⟩))
def f134 (O:ak bm)(J:bm):Option (ak bm):=
 qc (f201 O) fun v1=>
 cond v1.2
  (qc (bB v1.1 [J]) fun v4=>
  En v4)
  (cond v1.1.isNone
   (qc (bB v1.1 [J]) fun v7=>
   En v7)
   (E9))
theorem j96 {O J r}(h:f134 O J=En r):ae pr (X pr) 134 [sl 4 qz O,aP J]=En (sl 4 qz r,E3):=by
 unfold f134 at h;refine yf Dl ?_
 repeat' first|(replace h:=qd h;obtain⟨d,g,h⟩:=h;with_reducible first|replace g:=za7 g|replace g:=q6i g|skip)|(replace h:=qe h;rcases h with⟨g,h⟩|⟨g,h⟩)
 all_goals (cases h<;>(simp only[go_sem,seval,Dl, *];exact⟨_,rfl⟩))
def f150 (O:ak bp)(J:bp):Option (ak bp):=
 qc (f214 O) fun v1=>
 cond v1.2
  (qc (bB v1.1 [J]) fun v4=>
  En v4)
  (cond v1.1.isNone
   (qc (bB v1.1 [J]) fun v7=>
   En v7)
   (E9))
theorem j58 {O J r}(h:f150 O J=En r):ae pr (X pr) 150 [sl 8 bC O,aU J]=En (sl 8 bC r,E3):=by
 unfold f150 at h;refine yf Dm ?_
 repeat' first|(replace h:=qd h;obtain⟨d,g,h⟩:=h;with_reducible first|replace g:=zas g|replace g:=M7 g|skip)|(replace h:=qe h;rcases h with⟨g,h⟩|⟨g,h⟩)
 all_goals (cases h<;>(simp only[go_sem,seval,Dm, *];exact⟨_,rfl⟩))
def f148 (O:ak b9)(J:b9):Option (ak b9):=
 qc (f211 O) fun v1=>
 cond v1.2
  (qc (bB v1.1 [J]) fun v4=>
  En v4)
  (cond v1.1.isNone
   (qc (bB v1.1 [J]) fun v7=>
   En v7)
   (E9))
theorem j5h {O J r}(h:f148 O J=En r):ae pr (X pr) 148 [sl 2 yr O,aD J]=En (sl 2 yr r,E3):=by
 unfold f148 at h;refine yf Dn ?_
 repeat' first|(replace h:=qd h;obtain⟨d,g,h⟩:=h;with_reducible first|replace g:=j6d g|replace g:=jaa g|skip)|(replace h:=qe h;rcases h with⟨g,h⟩|⟨g,h⟩)
 all_goals (cases h<;>(simp only[go_sem,seval,Dn, *];exact⟨_,rfl⟩))
def f206 (O:ak bD)(J:bD):Option (ak bD):=
 qc (f212 O) fun v1=>
 cond v1.2
  (qc (bB v1.1 [J]) fun v4=>
  En v4)
  (cond v1.1.isNone
   (qc (bB v1.1 [J]) fun v7=>
   En v7)
   (E9))
theorem j6y {O J r}(h:f206 O J=En r):ae pr (X pr) 206 [sl 2 bz O,aN J]=En (sl 2 bz r,E3):=by
 unfold f206 at h;refine yf Dp ?_
 repeat' first|(replace h:=qd h;obtain⟨d,g,h⟩:=h;with_reducible first|replace g:=jvt g|replace g:=Bc g|skip)|(replace h:=qe h;rcases h with⟨g,h⟩|⟨g,h⟩)
 all_goals (cases h<;>(simp only[go_sem,seval,Dp, *];exact⟨_,rfl⟩))
def f210 (O:ak jh)(J:jh):Option (ak jh):=
 qc (f213 O) fun v1=>
 cond v1.2
  (qc (bB v1.1 [J]) fun v4=>
  En v4)
  (cond v1.1.isNone
   (qc (bB v1.1 [J]) fun v7=>
   En v7)
   (E9))
theorem zbk {O J r}(h:f210 O J=En r):ae pr (X pr) 210 [sl 3 je O,aT J]=En (sl 3 je r,E3):=by
 unfold f210 at h;refine yf Dq ?_
 repeat' first|(replace h:=qd h;obtain⟨d,g,h⟩:=h;with_reducible first|replace g:=jvd g|replace g:=Fj g|skip)|(replace h:=qe h;rcases h with⟨g,h⟩|⟨g,h⟩)
 all_goals (cases h<;>(simp only[go_sem,seval,Dq, *];exact⟨_,rfl⟩))
def f217 (O:ak bD)(J:bD):Option (ak bD):=
 qc (f239 O) fun v1=>
 cond v1.2
  (qc (bB v1.1 [J]) fun v4=>
  En v4)
  (cond v1.1.isNone
   (qc (bB v1.1 [J]) fun v7=>
   En v7)
   (E9))
theorem j52 {O J r}(h:f217 O J=En r):ae pr (X pr) 217 [sl 2 bz O,aN J]=En (sl 2 bz r,E3):=by
 unfold f217 at h;refine yf Dr ?_
 repeat' first|(replace h:=qd h;obtain⟨d,g,h⟩:=h;with_reducible first|replace g:=j49 g|replace g:=Bc g|skip)|(replace h:=qe h;rcases h with⟨g,h⟩|⟨g,h⟩)
 all_goals (cases h<;>(simp only[go_sem,seval,Dr, *];exact⟨_,rfl⟩))
def f161 (O:ak jh)(J:jh):Option (ak jh):=
 qc (f218 O) fun v1=>
 cond v1.2
  (qc (bB v1.1 [J]) fun v4=>
  En v4)
  (cond v1.1.isNone
   (qc (bB v1.1 [J]) fun v7=>
   En v7)
   (E9))
theorem zac {O J r}(h:f161 O J=En r):ae pr (X pr) 161 [sl 3 je O,aT J]=En (sl 3 je r,E3):=by
 unfold f161 at h;refine yf Ds ?_
 repeat' first|(replace h:=qd h;obtain⟨d,g,h⟩:=h;with_reducible first|replace g:=j45 g|replace g:=Fj g|skip)|(replace h:=qe h;rcases h with⟨g,h⟩|⟨g,h⟩)
 all_goals (cases h<;>(simp only[go_sem,seval,Ds, *];exact⟨_,rfl⟩))
def f149 (O:b9):Option b9:=
 qc (f212 O.aX) fun v1=>
 qc (f213 O.aO) fun v3=>
 En (⟨v1.1,v3.1⟩)
theorem j7f {O r}(h:f149 O=En r):ae pr (X pr) 149 [aD O]=En (aD r,Ep):=by
 unfold f149 at h;refine zd Dt ?_
 repeat' first|(replace h:=qd h;obtain⟨d,g,h⟩:=h;with_reducible first|replace g:=jvt g|replace g:=jvd g|skip)|(replace h:=qe h;rcases h with⟨g,h⟩|⟨g,h⟩)
 all_goals (cases h<;>(simp only[go_sem,seval,Dt, *];exact⟨_,rfl⟩))
end Go.Z
namespace Go.Z
open Go Go.Abs Go.W
def f108 (O:aj):Option sL:=
 cond (decide (O=([108,111,116]:aj)))
  (En (⟨2,2,E3⟩))
  (cond (decide (O=([112,114,111,100,117,99,116]:aj)))
   (En (⟨1,1,E3⟩))
   (cond (decide (O=([105,115,115,117,101]:aj)))
    (En (⟨1,1,E3⟩))
    (cond (decide (O=([117,112,100,97,116,101]:aj)))
     (En (⟨1,1,E3⟩))
     (cond (decide (O=([104,111,108,100]:aj)))
      (En (⟨1,1,E3⟩))
      (cond (decide (O=([102,114,101,101]:aj)))
       (En (⟨1,1,E3⟩))
       (cond (decide (O=([115,104,105,112]:aj)))
        (En (⟨1,1,E3⟩))
        (cond (decide (O=([99,111,109,112,108,97,105,110]:aj)))
         (En (⟨1,1,E3⟩))
         (cond (decide (O=([110,101,101,100]:aj)))
          (En (⟨2,2,E3⟩))
          (cond (decide (O=([117,115,101]:aj)))
           (En (⟨2,2,E3⟩))
           (cond (decide (O=([109,101,97,115,117,114,101]:aj)))
            (En (⟨2,2,E3⟩))
            (cond (decide (O=([116,101,115,116]:aj)))
             (En (⟨2,3,E3⟩))
             (cond (decide (O=([98,117,105,108,100]:aj)))
              (En (⟨2,1,E3⟩))
              (cond (decide (O=([112,97,105,114]:aj)))
               (En (⟨2,1,E3⟩))
               (cond (decide (O=([117,110,100,111]:aj)))
                (En (⟨0,0,E3⟩))
                (En (⟨0,0,Ep⟩))))))))))))))))
theorem j8g {O r}(h:f108 O=En r):ae pr (X pr) 108 [.str O]=En (.agg [Iv r.names,Iv r.values,.bool r.known],Ep):=by
 unfold f108 at h;refine zd Du ?_
 repeat' first|(replace h:=qe h;rcases h with⟨g,h⟩|⟨g,h⟩)
 all_goals (cases h<;>(simp only[go_sem,seval,Du, *];exact⟨_,rfl⟩))
def BA (O:GEv)(v4:sL)(V:Int):Option (Int⊕(Unit⊕Int)):=
 cond (decide (V<v4.names))
  (qc (qo (O.names.getD []) V) fun v22=>
  qc (f109 v22) fun v24=>
  cond v24
   (En (.inl (qf .i64 (V+1))))
   (En (.inr (.inl ()))))
  (En (.inr (.inr V)))
def P2 (O:GEv)(v4:sL)(V:Int):bj:=⟨[(1,.aq (aE O),Ep),(3,.aq (.agg [Iv v4.names,Iv v4.values,.bool E3]),Ep),(4,Iv V,Ep)],[]⟩
def P3 (O:GEv)(v4:sL):Unit⊕Int->jc×bj
 | .inl d=>(.ret,⟨[(2,Iv 8,Ep)],[]⟩)| .inr d=>(.exit 0,⟨[(1,.aq (aE O),Ep),(3,.aq (.agg [Iv v4.names,Iv v4.values,.bool E3]),Ep),(4,Iv d,Ep),(32,.bool Ep,Ep)],[]⟩)
theorem jxm (O:GEv)(v4:sL)(V:Int)(r)(h:BA O v4 V=En r):js pr P4 (P2 O v4) (P3 O v4) V r:=by
 unfold BA at h
 repeat' first|(replace h:=qd h;obtain⟨d,g,h⟩:=h;with_reducible first|replace g:=zbi g|skip)|(replace h:=qe h;rcases h with⟨g,h⟩|⟨g,h⟩)
 all_goals (cases h<;>((first|refine qw ?_|refine jy ?_);simp only[go_sem,seval,P4,P2,jn,P3, *]<;>rfl))
theorem j1c (O:GEv)(v4:sL){V d}(h:bu (BA O v4) V=En d):X pr (.loop P4) (P2 O v4 V)=En (P3 O v4 d):=zq (jxm O v4) h
def BD (O:GEv)(v4:sL)(s1:Int):Option (Int⊕(Unit⊕Int)):=
 cond (decide (s1<v4.values))
  (qc (qo (O.values.getD []) s1) fun Dv=>
  qc (f107 Dv 0 999999999) fun v46=>
  cond v46
   (En (.inr (.inl ())))
   (En (.inl (qf .i64 (s1+1)))))
  (En (.inr (.inr s1)))
def P5 (O:GEv)(v4:sL)(s1:Int):bj:=⟨[(1,.aq (aE O),Ep),(3,.aq (.agg [Iv v4.names,Iv v4.values,.bool E3]),Ep),(5,Iv s1,Ep)],[]⟩
def P6 (O:GEv)(v4:sL):Unit⊕Int->jc×bj
 | .inl d=>(.ret,⟨[(2,Iv 3,Ep)],[]⟩)| .inr d=>(.exit 2,⟨[(1,.aq (aE O),Ep),(3,.aq (.agg [Iv v4.names,Iv v4.values,.bool E3]),Ep),(5,Iv d,Ep),(45,.bool Ep,Ep)],[]⟩)
theorem j1g (O:GEv)(v4:sL)(s1:Int)(r)(h:BD O v4 s1=En r):js pr P7 (P5 O v4) (P6 O v4) s1 r:=by
 unfold BD at h
 repeat' first|(replace h:=qd h;obtain⟨d,g,h⟩:=h;with_reducible first|replace g:=WJ g|skip)|(replace h:=qe h;rcases h with⟨g,h⟩|⟨g,h⟩)
 all_goals (cases h<;>((first|refine qw ?_|refine jy ?_);simp only[go_sem,seval,P7,P5,jn,P6, *]<;>rfl))
theorem jzj (O:GEv)(v4:sL){s1 d}(h:bu (BD O v4) s1=En d):X pr (.loop P7) (P5 O v4 s1)=En (P6 O v4 d):=zq (j1g O v4) h
def f45 (O:GEv):Option Int:=
 qc (f107 O.number 1 1000) fun v1=>
 cond v1
  (En 3)
  (qc (f108 O.kind) fun v4=>
  cond v4.known
   (cond (decide (((O.names.getD []).length:Int)=v4.names))
    (cond (decide (((O.values.getD []).length:Int)=v4.values))
     (qc (bu (BA O v4) 0) fun d27=>match d27 with
      | .inl d29=>
       En 8
      | .inr d30=>
       qc (bu (BD O v4) 0) fun d49=>match d49 with
        | .inl d51=>
         En 3
        | .inr d52=>
         cond (decide (O.text=[]))
          (En 0)
          (En 1))
     (En 2))
    (En 2))
   (En 13))
theorem W45 {O r}(h:f45 O=En r):ae pr (X pr) 45 [aE O]=En (Iv r,Ep):=by
 unfold f45 at h;refine zd WU ?_
 repeat' first|(replace h:=qd h;obtain⟨d,g,h⟩:=h;with_reducible first|replace g:=WJ g|replace g:=j8g g|(replace g:=j1c O _ g;rcases d with d|d<;>dsimp only[P2,P3,zp]at g h)|(replace g:=jzj O _ g;rcases d with d|d<;>dsimp only[P5,P6,zp]at g h)|skip)|(replace h:=qe h;rcases h with⟨g,h⟩|⟨g,h⟩)
 all_goals (cases h<;>(simp only[go_sem,seval,WU, *];exact⟨_,rfl⟩))
end Go.Z
namespace Go.Z
open Go Go.Abs Go.W
section
variable {p:j8}{xc:XC}{h0:Nat}{al:ak Nat}{e:Env}{h:qi}{α:Type}
structure pX (f:α->AVal)(sz:Nat):Prop where
 len:∀x,(f x).flat.length=sz
 sc:∀x,(f x).flat.all qm=E3
 ag:∀x,f x=.agg (f x).flat
 ref:∀x,(f x).flat.any LD=E3
 big:1<sz
variable {f:α->AVal}{sz:Nat}
theorem jj7 (E:pX f sz)(l:List α):(zh f l).all qm=E3:=by
 induction l with
 |nil=>rfl|cons x l ih=>rw[A7,List.all_append,E.sc,ih];rfl
theorem jar (E:pX f sz):∀(l:List α),nc sz l.length (zh f l)=l.map f
 | []=>rfl
 |x::l=>by
  have hb:Hd sz 1=Ep:=by
   have:=E.big
   cases h:Hd sz 1 with
   |false=>rfl|true=>have:=Nat.eq_of_beq_eq_true h;omega
  have hl:=E.len x;show(bif Hd sz 1 then(zh f (x::l)).headD .undef else .agg ((zh f (x::l)).take sz))::nc sz l.length ((zh f (x::l)).drop sz)=_;rw[hb,cond_false,A7,List.take_append_of_le_length (by omega),List.drop_append_of_le_length (by omega),He (by omega),Hc (by omega),Hf,jar E l,<-E.ag];rfl
theorem vp (E:pX f sz){l}(hl:0<l.length){cs}(hc:cs.map (·.1)=zh f l):Nx (En cs) 0 l.length=En (.list Ep sz (l.map f)):=by
 have dT:cs.length=l.length*sz:=by rw[<-Hb (f:=(·.1)),hc,M3 E.len]
 have hdiv:cs.length / l.length=sz:=by rw[dT];exact Nat.mul_div_cancel_left _ hl
 have WV:cs.any (fun c=>LD c.1)=E3:=by
  cases l with
  |nil=>cases hl
  |cons x l=>
   have:(cs.map (·.1)).any LD=E3:=by rw[hc,A7,List.any_append,E.ref];rfl
   rw[List.any_map]at this;exact this
 have Q:EC 0 l.length cs=E3:=by
  have hb:Nat.blt 1 sz=E3:=Hk.mpr E.big;rw[EC,hdiv,hb,WV,dT,Ha,Ha];rfl
 unfold Nx;simp only[Q,cond_true,hdiv];rw[hc,jar E]
theorem Dw {r n WW zero}(hz:zero.length=sz)(G:zero.all qm=E3)(Y:0<sz)(hn:n<=1073741824)(hb:WW<=4096){h'}(hh:aK h0 h r (.cells (cellsOf (G1 n zero).flatten))=En h'):
  vd h0 r sz WW zero h (En (Iv (n:Int))) (En (Iv (n:Int)))=En ⟨.ms (h0+r) 0 n,Ep,E9,h'⟩:=by
 show(bif Hd n n&&Nat.ble n 1073741824&&Nat.ble WW 4096&&Hd zero.length sz&&Nat.blt 0 sz&&zero.all qm then _ else _)=_;rw[Ha,G5 hn,G5 hb,hz,Ha,Hk.mpr Y,G];simp only[G8,cond_true,hh];rfl
theorem Dx (E:pX f sz){b l cs}(hb:h[b]?=En (.cells cs))(hc:cs.length=(l.getD []).length*sz)(dL:j9 h0 al b=E3):
  wJ h0 al sz h (En (.ms b 0 (l.getD []).length)) (En (sl sz f l))=En ⟨Lv l,Ep,E9,h.set b (.cells (bQ f (l.getD [])))⟩:=by
 have iU:qy h b=En cs:=by rw[q9e,hb];rfl
 have bh:=(G0.1 hb).1
 have cU:Ac sz (l.getD []).length (sl sz f l)=En ((l.getD []).length,zh f (l.getD [])):=by
  cases l with
  |none=>simp[sl,Ac,zh]
  |some l=>
   show(bif Hd sz sz||(l.map f).isEmpty then En (min (l.map f).length l.length,((l.map f).take l.length).flatMap AVal.flat)else E9)=_;rw[Ha,Hb,Nat.min_self,He (by rw[Hb];exact Nat.le_refl _)];rfl
 have L8:(zh f (l.getD [])).length=(l.getD []).length*sz:=M3 E.len _
 have cq:jr cs 0 (zh f (l.getD []))=En (bQ f (l.getD [])):=by
  unfold jr;rw[jj7 E,L8,hc,G5 (by omega)];simp only[G8,cond_true,Hp,Hf];rw[Hc (by rw[hc];omega),Ho];rfl
 have bK:jx h b (.cells (bQ f (l.getD [])))=En (h.set b (.cells (bQ f (l.getD [])))):=by
  simp only[jx,Hk.mpr bh,cond_true]
 show(bif j9 h0 al b then(match qy h b with
   |some cs=>(match Ac sz (l.getD []).length (sl sz f l)with
    |some (n,vs)=>(match jr cs 0 vs with
     |some eE=>bif Hd vs.length (n*sz)then(match jx h b (.cells eE)with
      |some h'=>val h' (Iv n)
      |none=>E9)else E9
     |none=>E9)
    |none=>E9)
   |none=>E9)else E9)=_
 rw[dL,iU,cU];simp only[cond_true,cq,L8,Ha,bK];rfl
theorem vq {b n i k}(hi:i<n):iR sz h (En (.ms b 0 n)) (En (.int k (i:Int)))=En ⟨.ptr b (i*sz),Ep,E9,h⟩:=by
 have:idx n (.int k (i:Int))=En i:=by rw[xV];exact Td hi
 simp only[iR,this,Nat.zero_add];rfl
end
end Go.Z
namespace Go.Z
open Go Go.Abs Go.W
theorem gv:pX jd 5:=⟨fun _=>rfl,fun _=>rfl,fun _=>rfl,fun _=>rfl,by omega⟩
theorem pY:pX bz 2:=⟨fun _=>rfl,fun _=>rfl,fun _=>rfl,fun _=>rfl,by omega⟩
theorem tC:pX je 3:=⟨fun _=>rfl,fun _=>rfl,fun _=>rfl,fun _=>rfl,by omega⟩
theorem cJ:pX qz 4:=⟨fun _=>rfl,fun _=>by simp only[go_sem,seval,jbk]<;>simp only[Hg,go_sem],fun _=>rfl,fun _=>rfl,by omega⟩
theorem ek:pX bC 8:=⟨fun _=>rfl,fun _=>by simp only[go_sem,seval,jkt]<;>simp only[Hg,go_sem],fun _=>rfl,fun _=>rfl,by omega⟩
theorem j66 {j caps l i cs}(hlen:(l.getD []).length<=1073741824)(hi:i<(l.getD []).length)(dT:ai pr (X pr) j (.ptr 0 (i*4)::caps) [.cells (bQ qz (l.getD []))]=En (.bq [],Ep,[.cells cs])):ai pr (X pr) 146 [sl 4 qz l,Iv (i:Int),.fn (.func j) [] caps] []=En (.ms 0 0 ((l.getD []).length),Ep,[.cells cs]):=by
 rw[qh (show pr.bn 146=En Dy from rfl) (by simp)]
 have pZ:vd 0 0 4 88 [(.str []),(Nl),(Nl),(Nl)] [.hole] (En (Lv l)) (En (Lv l))=En ⟨.ms 0 0 (l.getD []).length,Ep,E9,[.cells (cellsOf (G1 (l.getD []).length [(.str []),(Nl),(Nl),(Nl)]).flatten)]⟩:=by apply Dw<;>first|exact hlen|rfl|decide
 have qA:wJ 1 E9 4 [.cells (cellsOf (G1 (l.getD []).length [(.str []),(Nl),(Nl),(Nl)]).flatten)] (En (.ms 0 0 (l.getD []).length)) (En (sl 4 qz l))=En ⟨Lv l,Ep,E9,[.cells (bQ qz (l.getD []))]⟩:=Dx cJ rfl (by simp[cellsOf]) rfl;simp only[go_sem,seval,Dy,pZ,qA,vq hi,dT]<;>rfl
theorem jzq{y:bm} {j:Nat} {caps:List AVal} {l:ak bm} {i:Nat} {cs:List (AVal×Bool)} (hlen:(l.getD []).length<=1073741824) (hi:i<(l.getD []).length) (dT:ai pr (X pr) j (.ptr 0 (i*4)::caps) [.cells (bQ qz (l.getD []))]=En (.bq [],Ep,[.cells cs])) (hcs:cs.map (·.1)=zh qz ((l.getD []).set i y)):ae pr (X pr) 146 [sl 4 qz l,Iv (i:Int),.fn (.func j) [] caps]=En (sl 4 qz (En ((l.getD []).set i y)),Ep):=by
 have hl:((l.getD []).set i y).length=(l.getD []).length:=G4
 have hz:aV [.cells cs] (.ms 0 0 ((l.getD []).length))=En (sl 4 qz (En ((l.getD []).set i y))):=by
  rw[FJ,<-hl];exact vp cJ (by rw[hl];omega) hcs
 exact jo rfl (j66 hlen hi dT) hz (by first|rfl|simp only[go_sem,seval])
theorem j99 {j caps l i cs}(hlen:(l.getD []).length<=1073741824)(hi:i<(l.getD []).length)(dT:ai pr (X pr) j (.ptr 0 (i*5)::caps) [.cells (bQ jd (l.getD []))]=En (.bq [],Ep,[.cells cs])):ai pr (X pr) 152 [sl 5 jd l,Iv (i:Int),.fn (.func j) [] caps] []=En (.ms 0 0 ((l.getD []).length),Ep,[.cells cs]):=by
 rw[qh (show pr.bn 152=En Dz from rfl) (by simp)]
 have pZ:vd 0 0 5 56 [(.str []),(.str []),(Iv 0),(Iv 0),(.bool Ep)] [.hole] (En (Lv l)) (En (Lv l))=En ⟨.ms 0 0 (l.getD []).length,Ep,E9,[.cells (cellsOf (G1 (l.getD []).length [(.str []),(.str []),(Iv 0),(Iv 0),(.bool Ep)]).flatten)]⟩:=by apply Dw<;>first|exact hlen|rfl|decide
 have qA:wJ 1 E9 5 [.cells (cellsOf (G1 (l.getD []).length [(.str []),(.str []),(Iv 0),(Iv 0),(.bool Ep)]).flatten)] (En (.ms 0 0 (l.getD []).length)) (En (sl 5 jd l))=En ⟨Lv l,Ep,E9,[.cells (bQ jd (l.getD []))]⟩:=Dx gv rfl (by simp[cellsOf]) rfl;simp only[go_sem,seval,Dz,pZ,qA,vq hi,dT]<;>rfl
theorem j17{y:ji} {j:Nat} {caps:List AVal} {l:ak ji} {i:Nat} {cs:List (AVal×Bool)} (hlen:(l.getD []).length<=1073741824) (hi:i<(l.getD []).length) (dT:ai pr (X pr) j (.ptr 0 (i*5)::caps) [.cells (bQ jd (l.getD []))]=En (.bq [],Ep,[.cells cs])) (hcs:cs.map (·.1)=zh jd ((l.getD []).set i y)):ae pr (X pr) 152 [sl 5 jd l,Iv (i:Int),.fn (.func j) [] caps]=En (sl 5 jd (En ((l.getD []).set i y)),Ep):=by
 have hl:((l.getD []).set i y).length=(l.getD []).length:=G4
 have hz:aV [.cells cs] (.ms 0 0 ((l.getD []).length))=En (sl 5 jd (En ((l.getD []).set i y))):=by
  rw[FJ,<-hl];exact vp gv (by rw[hl];omega) hcs
 exact jo rfl (j99 hlen hi dT) hz (by first|rfl|simp only[go_sem,seval])
theorem j51 {j caps l i cs}(hlen:(l.getD []).length<=1073741824)(hi:i<(l.getD []).length)(dT:ai pr (X pr) j (.ptr 0 (i*8)::caps) [.cells (bQ bC (l.getD []))]=En (.bq [],Ep,[.cells cs])):ai pr (X pr) 156 [sl 8 bC l,Iv (i:Int),.fn (.func j) [] caps] []=En (.ms 0 0 ((l.getD []).length),Ep,[.cells cs]):=by
 rw[qh (show pr.bn 156=En tD from rfl) (by simp)]
 have pZ:vd 0 0 8 120 [(.str []),(.str []),(Iv 0),(Nl),(Nl),(.str []),(.bool Ep),(Iv 0)] [.hole] (En (Lv l)) (En (Lv l))=En ⟨.ms 0 0 (l.getD []).length,Ep,E9,[.cells (cellsOf (G1 (l.getD []).length [(.str []),(.str []),(Iv 0),(Nl),(Nl),(.str []),(.bool Ep),(Iv 0)]).flatten)]⟩:=by apply Dw<;>first|exact hlen|rfl|decide
 have qA:wJ 1 E9 8 [.cells (cellsOf (G1 (l.getD []).length [(.str []),(.str []),(Iv 0),(Nl),(Nl),(.str []),(.bool Ep),(Iv 0)]).flatten)] (En (.ms 0 0 (l.getD []).length)) (En (sl 8 bC l))=En ⟨Lv l,Ep,E9,[.cells (bQ bC (l.getD []))]⟩:=Dx ek rfl (by simp[cellsOf]) rfl;simp only[go_sem,seval,tD,pZ,qA,vq hi,dT]<;>rfl
theorem jxg{y:bp} {j:Nat} {caps:List AVal} {l:ak bp} {i:Nat} {cs:List (AVal×Bool)} (hlen:(l.getD []).length<=1073741824) (hi:i<(l.getD []).length) (dT:ai pr (X pr) j (.ptr 0 (i*8)::caps) [.cells (bQ bC (l.getD []))]=En (.bq [],Ep,[.cells cs])) (hcs:cs.map (·.1)=zh bC ((l.getD []).set i y)):ae pr (X pr) 156 [sl 8 bC l,Iv (i:Int),.fn (.func j) [] caps]=En (sl 8 bC (En ((l.getD []).set i y)),Ep):=by
 have hl:((l.getD []).set i y).length=(l.getD []).length:=G4
 have hz:aV [.cells cs] (.ms 0 0 ((l.getD []).length))=En (sl 8 bC (En ((l.getD []).set i y))):=by
  rw[FJ,<-hl];exact vp ek (by rw[hl];omega) hcs
 exact jo rfl (j51 hlen hi dT) hz (by first|rfl|simp only[go_sem,seval])
theorem jmw {b0 b1 b2 b3 b4 j caps l i cs}(hlen:(l.getD []).length<=1073741824)(hi:i<(l.getD []).length)(dT:ai pr (X pr) j (.ptr 5 (i*8)::caps) [b0,b1,b2,b3,b4,.cells (bQ bC (l.getD []))]=En (.bq [],Ep,[b0,b1,b2,b3,b4,.cells cs])):ai pr (X pr) 156 [sl 8 bC l,Iv (i:Int),.fn (.func j) [] caps] [b0,b1,b2,b3,b4]=En (.ms 5 0 ((l.getD []).length),Ep,[b0,b1,b2,b3,b4,.cells cs]):=by
 rw[qh (show pr.bn 156=En tD from rfl) (by simp)]
 have pZ:vd 5 0 8 120 [(.str []),(.str []),(Iv 0),(Nl),(Nl),(.str []),(.bool Ep),(Iv 0)] [b0,b1,b2,b3,b4,.hole] (En (Lv l)) (En (Lv l))=En ⟨.ms 5 0 (l.getD []).length,Ep,E9,[b0,b1,b2,b3,b4,.cells (cellsOf (G1 (l.getD []).length [(.str []),(.str []),(Iv 0),(Nl),(Nl),(.str []),(.bool Ep),(Iv 0)]).flatten)]⟩:=by apply Dw<;>first|exact hlen|rfl|decide
 have qA:wJ 6 E9 8 [b0,b1,b2,b3,b4,.cells (cellsOf (G1 (l.getD []).length [(.str []),(.str []),(Iv 0),(Nl),(Nl),(.str []),(.bool Ep),(Iv 0)]).flatten)] (En (.ms 5 0 (l.getD []).length)) (En (sl 8 bC l))=En ⟨Lv l,Ep,E9,[b0,b1,b2,b3,b4,.cells (bQ bC (l.getD []))]⟩:=Dx ek rfl (by simp[cellsOf]) rfl;simp only[go_sem,seval,tD,pZ,qA,vq hi,dT]<;>rfl
theorem j6v {j caps l i cs}(hlen:(l.getD []).length<=1073741824)(hi:i<(l.getD []).length)(dT:ai pr (X pr) j (.ptr 0 (i*2)::caps) [.cells (bQ bz (l.getD []))]=En (.bq [],Ep,[.cells cs])):ai pr (X pr) 204 [sl 2 bz l,Iv (i:Int),.fn (.func j) [] caps] []=En (.ms 0 0 ((l.getD []).length),Ep,[.cells cs]):=by
 rw[qh (show pr.bn 204=En DA from rfl) (by simp)]
 have pZ:vd 0 0 2 24 [(.str []),(Iv 0)] [.hole] (En (Lv l)) (En (Lv l))=En ⟨.ms 0 0 (l.getD []).length,Ep,E9,[.cells (cellsOf (G1 (l.getD []).length [(.str []),(Iv 0)]).flatten)]⟩:=by apply Dw<;>first|exact hlen|rfl|decide
 have qA:wJ 1 E9 2 [.cells (cellsOf (G1 (l.getD []).length [(.str []),(Iv 0)]).flatten)] (En (.ms 0 0 (l.getD []).length)) (En (sl 2 bz l))=En ⟨Lv l,Ep,E9,[.cells (bQ bz (l.getD []))]⟩:=Dx pY rfl (by simp[cellsOf]) rfl;simp only[go_sem,seval,DA,pZ,qA,vq hi,dT]<;>rfl
theorem j1l{y:bD} {j:Nat} {caps:List AVal} {l:ak bD} {i:Nat} {cs:List (AVal×Bool)} (hlen:(l.getD []).length<=1073741824) (hi:i<(l.getD []).length) (dT:ai pr (X pr) j (.ptr 0 (i*2)::caps) [.cells (bQ bz (l.getD []))]=En (.bq [],Ep,[.cells cs])) (hcs:cs.map (·.1)=zh bz ((l.getD []).set i y)):ae pr (X pr) 204 [sl 2 bz l,Iv (i:Int),.fn (.func j) [] caps]=En (sl 2 bz (En ((l.getD []).set i y)),Ep):=by
 have hl:((l.getD []).set i y).length=(l.getD []).length:=G4
 have hz:aV [.cells cs] (.ms 0 0 ((l.getD []).length))=En (sl 2 bz (En ((l.getD []).set i y))):=by
  rw[FJ,<-hl];exact vp pY (by rw[hl];omega) hcs
 exact jo rfl (j6v hlen hi dT) hz (by first|rfl|simp only[go_sem,seval])
theorem j7j {j caps l i cs}(hlen:(l.getD []).length<=1073741824)(hi:i<(l.getD []).length)(dT:ai pr (X pr) j (.ptr 0 (i*3)::caps) [.cells (bQ je (l.getD []))]=En (.bq [],Ep,[.cells cs])):ai pr (X pr) 208 [sl 3 je l,Iv (i:Int),.fn (.func j) [] caps] []=En (.ms 0 0 ((l.getD []).length),Ep,[.cells cs]):=by
 rw[qh (show pr.bn 208=En DB from rfl) (by simp)]
 have pZ:vd 0 0 3 32 [(.str []),(Iv 0),(Iv 0)] [.hole] (En (Lv l)) (En (Lv l))=En ⟨.ms 0 0 (l.getD []).length,Ep,E9,[.cells (cellsOf (G1 (l.getD []).length [(.str []),(Iv 0),(Iv 0)]).flatten)]⟩:=by apply Dw<;>first|exact hlen|rfl|decide
 have qA:wJ 1 E9 3 [.cells (cellsOf (G1 (l.getD []).length [(.str []),(Iv 0),(Iv 0)]).flatten)] (En (.ms 0 0 (l.getD []).length)) (En (sl 3 je l))=En ⟨Lv l,Ep,E9,[.cells (bQ je (l.getD []))]⟩:=Dx tC rfl (by simp[cellsOf]) rfl;simp only[go_sem,seval,DB,pZ,qA,vq hi,dT]<;>rfl
theorem jz8{y:jh} {j:Nat} {caps:List AVal} {l:ak jh} {i:Nat} {cs:List (AVal×Bool)} (hlen:(l.getD []).length<=1073741824) (hi:i<(l.getD []).length) (dT:ai pr (X pr) j (.ptr 0 (i*3)::caps) [.cells (bQ je (l.getD []))]=En (.bq [],Ep,[.cells cs])) (hcs:cs.map (·.1)=zh je ((l.getD []).set i y)):ae pr (X pr) 208 [sl 3 je l,Iv (i:Int),.fn (.func j) [] caps]=En (sl 3 je (En ((l.getD []).set i y)),Ep):=by
 have hl:((l.getD []).set i y).length=(l.getD []).length:=G4
 have hz:aV [.cells cs] (.ms 0 0 ((l.getD []).length))=En (sl 3 je (En ((l.getD []).set i y))):=by
  rw[FJ,<-hl];exact vp tC (by rw[hl];omega) hcs
 exact jo rfl (j7j hlen hi dT) hz (by first|rfl|simp only[go_sem,seval])
theorem j9b {j caps l i cs}(hlen:(l.getD []).length<=1073741824)(hi:i<(l.getD []).length)(dT:ai pr (X pr) j (.ptr 0 (i*2)::caps) [.cells (bQ bz (l.getD []))]=En (.bq [],Ep,[.cells cs])):ai pr (X pr) 215 [sl 2 bz l,Iv (i:Int),.fn (.func j) [] caps] []=En (.ms 0 0 ((l.getD []).length),Ep,[.cells cs]):=by
 rw[qh (show pr.bn 215=En DC from rfl) (by simp)]
 have pZ:vd 0 0 2 24 [(.str []),(Iv 0)] [.hole] (En (Lv l)) (En (Lv l))=En ⟨.ms 0 0 (l.getD []).length,Ep,E9,[.cells (cellsOf (G1 (l.getD []).length [(.str []),(Iv 0)]).flatten)]⟩:=by apply Dw<;>first|exact hlen|rfl|decide
 have qA:wJ 1 E9 2 [.cells (cellsOf (G1 (l.getD []).length [(.str []),(Iv 0)]).flatten)] (En (.ms 0 0 (l.getD []).length)) (En (sl 2 bz l))=En ⟨Lv l,Ep,E9,[.cells (bQ bz (l.getD []))]⟩:=Dx pY rfl (by simp[cellsOf]) rfl;simp only[go_sem,seval,DC,pZ,qA,vq hi,dT]<;>rfl
theorem j00{y:bD} {j:Nat} {caps:List AVal} {l:ak bD} {i:Nat} {cs:List (AVal×Bool)} (hlen:(l.getD []).length<=1073741824) (hi:i<(l.getD []).length) (dT:ai pr (X pr) j (.ptr 0 (i*2)::caps) [.cells (bQ bz (l.getD []))]=En (.bq [],Ep,[.cells cs])) (hcs:cs.map (·.1)=zh bz ((l.getD []).set i y)):ae pr (X pr) 215 [sl 2 bz l,Iv (i:Int),.fn (.func j) [] caps]=En (sl 2 bz (En ((l.getD []).set i y)),Ep):=by
 have hl:((l.getD []).set i y).length=(l.getD []).length:=G4
 have hz:aV [.cells cs] (.ms 0 0 ((l.getD []).length))=En (sl 2 bz (En ((l.getD []).set i y))):=by
  rw[FJ,<-hl];exact vp pY (by rw[hl];omega) hcs
 exact jo rfl (j9b hlen hi dT) hz (by first|rfl|simp only[go_sem,seval])
end Go.Z
namespace Go.Z
open Go Go.Abs Go.W
def gq {α:Type}(l:Option (List α))(i:Int)(g:α->Option α):Option (Option (List α)):=
 if(l.getD []).length<=1073741824/\0<=i then(match(l.getD [])[i.toNat]? with
  |some x=>(match g x with
   |some y=>En (En ((l.getD []).set i.toNat y))
   |none=>E9)
  |none=>E9)else E9
theorem zV {α:Type}{l i g r}(h:gq l i g=En r):∃(n:Nat) (x y:α),i=(n:Int)/\(l.getD []).length<=1073741824/\(l.getD [])[n]?=En x/\g x=En y/\r=En ((l.getD []).set n y):=by
 unfold gq at h;split at h
 .rename_i hc;split at h
  .rename_i x M;split at h
   .rename_i y hy;cases h;exact⟨i.toNat,x,y,(Int.toNat_of_nonneg hc.2).symm,hc.1,M,hy,rfl⟩
   .cases h
  .cases h
 .cases h
theorem WX {l r i g j caps}(dT:∀(n:Nat) (x y:bm),(l.getD [])[n]?=En x->g x=En y->∃cs,ai pr (X pr) j (.ptr 0 (n*4)::caps) [.cells (bQ qz (l.getD []))]=En (.bq [],Ep,[.cells cs])/\cs.map (·.1)=zh qz ((l.getD []).set n y))(h:gq l i g=En r):ae pr (X pr) 146 [sl 4 qz l,Iv i,.fn (.func j) [] caps]=En (sl 4 qz r,Ep):=by
 obtain⟨n,x,y,rfl,hl,M,hy,rfl⟩:=zV h;obtain⟨cs,Y,I⟩:=dT n x y M hy;exact jzq hl (G0.1 M).1 Y I
theorem WY {l r i g j caps}(dT:∀(n:Nat) (x y:ji),(l.getD [])[n]?=En x->g x=En y->∃cs,ai pr (X pr) j (.ptr 0 (n*5)::caps) [.cells (bQ jd (l.getD []))]=En (.bq [],Ep,[.cells cs])/\cs.map (·.1)=zh jd ((l.getD []).set n y))(h:gq l i g=En r):ae pr (X pr) 152 [sl 5 jd l,Iv i,.fn (.func j) [] caps]=En (sl 5 jd r,Ep):=by
 obtain⟨n,x,y,rfl,hl,M,hy,rfl⟩:=zV h;obtain⟨cs,Y,I⟩:=dT n x y M hy;exact j17 hl (G0.1 M).1 Y I
theorem GF {l r i g j caps}(dT:∀(n:Nat) (x y:bp),(l.getD [])[n]?=En x->g x=En y->∃cs,ai pr (X pr) j (.ptr 0 (n*8)::caps) [.cells (bQ bC (l.getD []))]=En (.bq [],Ep,[.cells cs])/\cs.map (·.1)=zh bC ((l.getD []).set n y))(h:gq l i g=En r):ae pr (X pr) 156 [sl 8 bC l,Iv i,.fn (.func j) [] caps]=En (sl 8 bC r,Ep):=by
 obtain⟨n,x,y,rfl,hl,M,hy,rfl⟩:=zV h;obtain⟨cs,Y,I⟩:=dT n x y M hy;exact jxg hl (G0.1 M).1 Y I
theorem j0k {l r i g j caps}(dT:∀(n:Nat) (x y:bD),(l.getD [])[n]?=En x->g x=En y->∃cs,ai pr (X pr) j (.ptr 0 (n*2)::caps) [.cells (bQ bz (l.getD []))]=En (.bq [],Ep,[.cells cs])/\cs.map (·.1)=zh bz ((l.getD []).set n y))(h:gq l i g=En r):ae pr (X pr) 204 [sl 2 bz l,Iv i,.fn (.func j) [] caps]=En (sl 2 bz r,Ep):=by
 obtain⟨n,x,y,rfl,hl,M,hy,rfl⟩:=zV h;obtain⟨cs,Y,I⟩:=dT n x y M hy;exact j1l hl (G0.1 M).1 Y I
theorem j10 {l r i g j caps}(dT:∀(n:Nat) (x y:jh),(l.getD [])[n]?=En x->g x=En y->∃cs,ai pr (X pr) j (.ptr 0 (n*3)::caps) [.cells (bQ je (l.getD []))]=En (.bq [],Ep,[.cells cs])/\cs.map (·.1)=zh je ((l.getD []).set n y))(h:gq l i g=En r):ae pr (X pr) 208 [sl 3 je l,Iv i,.fn (.func j) [] caps]=En (sl 3 je r,Ep):=by
 obtain⟨n,x,y,rfl,hl,M,hy,rfl⟩:=zV h;obtain⟨cs,Y,I⟩:=dT n x y M hy;exact jz8 hl (G0.1 M).1 Y I
theorem jzb {l r i g j caps}(dT:∀(n:Nat) (x y:bD),(l.getD [])[n]?=En x->g x=En y->∃cs,ai pr (X pr) j (.ptr 0 (n*2)::caps) [.cells (bQ bz (l.getD []))]=En (.bq [],Ep,[.cells cs])/\cs.map (·.1)=zh bz ((l.getD []).set n y))(h:gq l i g=En r):ae pr (X pr) 215 [sl 2 bz l,Iv i,.fn (.func j) [] caps]=En (sl 2 bz r,Ep):=by
 obtain⟨n,x,y,rfl,hl,M,hy,rfl⟩:=zV h;obtain⟨cs,Y,I⟩:=dT n x y M hy;exact j00 hl (G0.1 M).1 Y I
theorem j43 {l i x}(M:l[i]?=En x):ai pr (X pr) 166 [.ptr 0 (i*5)] [.cells (bQ jd l)]=En (.bq [],Ep,[.cells (bQ jd (l.set i { x with held:=E3 }))]):=by
 rw[qh (show pr.bn 166=En DE from rfl) (by simp)];have st:jr (bQ jd l) (i*5+4) [.bool E3]=En (bQ jd (l.set i { x with held:=E3 })):=nq (o:=4) gv.len M (E8 rfl) rfl rfl;simp only[go_sem,seval,DE,st]<;>rfl
def Uk (l:ak ji)(i:Int):Option (ak ji):=gq l i fun x=>En { x with held:=E3 }
theorem jh8 {l i r}(h:Uk l i=En r):ae pr (X pr) 152 [sl 5 jd l,Iv i,.fn (.func 166) [] []]=En (sl 5 jd r,Ep):=
 WY (fun n x y M hy=>by cases hy;exact⟨_,j43 M,z5⟩) h
theorem j4z {l i x}(M:l[i]?=En x):ai pr (X pr) 167 [.ptr 0 (i*5)] [.cells (bQ jd l)]=En (.bq [],Ep,[.cells (bQ jd (l.set i { x with held:=Ep }))]):=by
 rw[qh (show pr.bn 167=En DF from rfl) (by simp)];have st:jr (bQ jd l) (i*5+4) [.bool Ep]=En (bQ jd (l.set i { x with held:=Ep })):=nq (o:=4) gv.len M (E8 rfl) rfl rfl;simp only[go_sem,seval,DF,st]<;>rfl
def Ul (l:ak ji)(i:Int):Option (ak ji):=gq l i fun x=>En { x with held:=Ep }
theorem jmf {l i r}(h:Ul l i=En r):ae pr (X pr) 152 [sl 5 jd l,Iv i,.fn (.func 167) [] []]=En (sl 5 jd r,Ep):=
 WY (fun n x y M hy=>by cases hy;exact⟨_,j4z M,z5⟩) h
theorem j95 {l i x}(M:l[i]?=En x):ai pr (X pr) 169 [.ptr 0 (i*8)] [.cells (bQ bC l)]=En (.bq [],Ep,[.cells (bQ bC (l.set i { x with ax:=E3 }))]):=by
 rw[qh (show pr.bn 169=En DG from rfl) (by simp)];have st:jr (bQ bC l) (i*8+6) [.bool E3]=En (bQ bC (l.set i { x with ax:=E3 })):=nq (o:=6) ek.len M (E8 rfl) rfl rfl;simp only[go_sem,seval,DG,st]<;>rfl
def Uo (l:ak bp)(i:Int):Option (ak bp):=gq l i fun x=>En { x with ax:=E3 }
theorem jlw {l i r}(h:Uo l i=En r):ae pr (X pr) 156 [sl 8 bC l,Iv i,.fn (.func 169) [] []]=En (sl 8 bC r,Ep):=
 GF (fun n x y M hy=>by cases hy;exact⟨_,j95 M,z5⟩) h
theorem j9x {l i x}(M:l[i]?=En x):ai pr (X pr) 170 [.ptr 0 (i*8)] [.cells (bQ bC l)]=En (.bq [],Ep,[.cells (bQ bC (l.set i { x with au:=qf .i64 (x.au+1) }))]):=by
 rw[qh (show pr.bn 170=En DH from rfl) (by simp)];have st:jr (bQ bC l) (i*8+7) [Iv (qf .i64 (x.au+1))]=En (bQ bC (l.set i { x with au:=qf .i64 (x.au+1) })):=nq (o:=7) ek.len M (E8 rfl) rfl rfl;have WZ:zm (bQ bC l) (i*8+7) 1=En [Iv x.au]:=wc (o:=7) ek.len M (by decide);simp only[go_sem,seval,DH,st,WZ]<;>rfl
def Up (l:ak bp)(i:Int):Option (ak bp):=gq l i fun x=>En { x with au:=qf .i64 (x.au+1) }
theorem jjx {l i r}(h:Up l i=En r):ae pr (X pr) 156 [sl 8 bC l,Iv i,.fn (.func 170) [] []]=En (sl 8 bC r,Ep):=
 GF (fun n x y M hy=>by cases hy;exact⟨_,j9x M,z5⟩) h
theorem j8o {l i x v}(M:l[i]?=En x):ai pr (X pr) 163 [.ptr 0 (i*8),.aq (Iv v)] [.cells (bQ bC l)]=En (.bq [],Ep,[.cells (bQ bC (l.set i { x with version:=v }))]):=by
 rw[qh (show pr.bn 163=En DI from rfl) (by simp)];have st:jr (bQ bC l) (i*8+2) [Iv v]=En (bQ bC (l.set i { x with version:=v })):=nq (o:=2) ek.len M (E8 rfl) rfl rfl;simp only[go_sem,seval,DI,st]<;>rfl
def Un (l:ak bp)(i:Int)(v:Int):Option (ak bp):=gq l i fun x=>En { x with version:=v }
theorem jju {l i v r}(h:Un l i v=En r):ae pr (X pr) 156 [sl 8 bC l,Iv i,.fn (.func 163) [] [.aq (Iv v)]]=En (sl 8 bC r,Ep):=
 GF (fun n x y M hy=>by cases hy;exact⟨_,j8o M,z5⟩) h
theorem j64 {l i x b}(M:l[i]?=En x):ai pr (X pr) 164 [.ptr 0 (i*8),.aq (bC b)] [.cells (bQ bC l)]=En (.bq [],Ep,[.cells (bQ bC (l.set i { x with partner:=b.name }))]):=by
 rw[qh (show pr.bn 164=En DJ from rfl) (by simp)];have st:jr (bQ bC l) (i*8+5) [.str b.name]=En (bQ bC (l.set i { x with partner:=b.name })):=nq (o:=5) ek.len M (E8 rfl) rfl rfl;simp only[go_sem,seval,DJ,st,bC]<;>rfl
def uJ (l:ak bp)(i:Int)(b:bp):Option (ak bp):=gq l i fun x=>En { x with partner:=b.name }
theorem jj3 {l i b r}(h:uJ l i b=En r):ae pr (X pr) 156 [sl 8 bC l,Iv i,.fn (.func 164) [] [.aq (bC b)]]=En (sl 8 bC r,Ep):=
 GF (fun n x y M hy=>by cases hy;exact⟨_,j64 M,z5⟩) h
theorem zat {l i x b}(M:l[i]?=En x):ai pr (X pr) 165 [.ptr 0 (i*8),.aq (bC b)] [.cells (bQ bC l)]=En (.bq [],Ep,[.cells (bQ bC (l.set i { x with partner:=b.name }))]):=by
 rw[qh (show pr.bn 165=En DK from rfl) (by simp)];have st:jr (bQ bC l) (i*8+5) [.str b.name]=En (bQ bC (l.set i { x with partner:=b.name })):=nq (o:=5) ek.len M (E8 rfl) rfl rfl;simp only[go_sem,seval,DK,st,bC]<;>rfl
def uL (l:ak bp)(i:Int)(b:bp):Option (ak bp):=gq l i fun x=>En { x with partner:=b.name }
theorem jjg {l i b r}(h:uL l i b=En r):ae pr (X pr) 156 [sl 8 bC l,Iv i,.fn (.func 165) [] [.aq (bC b)]]=En (sl 8 bC r,Ep):=
 GF (fun n x y M hy=>by cases hy;exact⟨_,zat M,z5⟩) h
theorem za2 {l i x v}(M:l[i]?=En x):ai pr (X pr) 153 [.ptr 0 (i*5),.aq (Iv v)] [.cells (bQ jd l)]=En (.bq [],Ep,[.cells (bQ jd (l.set i { x with left:=qf .i64 (x.left-v) }))]):=by
 rw[qh (show pr.bn 153=En DL from rfl) (by simp)];have st:jr (bQ jd l) (i*5+3) [Iv (qf .i64 (x.left-v))]=En (bQ jd (l.set i { x with left:=qf .i64 (x.left-v) })):=nq (o:=3) gv.len M (E8 rfl) rfl rfl;have WZ:zm (bQ jd l) (i*5+3) 1=En [Iv x.left]:=wc (o:=3) gv.len M (by decide);simp only[go_sem,seval,DL,st,WZ]<;>rfl
def Ur (l:ak ji)(i:Int)(v:Int):Option (ak ji):=gq l i fun x=>En { x with left:=qf .i64 (x.left-v) }
theorem jk8 {l i v r}(h:Ur l i v=En r):ae pr (X pr) 152 [sl 5 jd l,Iv i,.fn (.func 153) [] [.aq (Iv v)]]=En (sl 5 jd r,Ep):=
 WY (fun n x y M hy=>by cases hy;exact⟨_,za2 M,z5⟩) h
theorem j85 {l i x b}(M:l[i]?=En x):ai pr (X pr) 205 [.ptr 0 (i*2),.aq (bz b)] [.cells (bQ bz l)]=En (.bq [],Ep,[.cells (bQ bz (l.set i b))]):=by
 rw[qh (show pr.bn 205=En DM from rfl) (by simp)];have st:jr (bQ bz l) (i*2) [.str b.k,Iv b.n]=En (bQ bz (l.set i b)):=nq (o:=0) pY.len M (E8 rfl) rfl rfl;simp only[go_sem,seval,DM,st,bz]<;>rfl
def jvw (l:ak bD)(i:Int)(b:bD):Option (ak bD):=gq l i fun x=>En b
theorem jln {l i b r}(h:jvw l i b=En r):ae pr (X pr) 204 [sl 2 bz l,Iv i,.fn (.func 205) [] [.aq (bz b)]]=En (sl 2 bz r,Ep):=
 j0k (fun n x y M hy=>by cases hy;exact⟨_,j85 M,z5⟩) h
theorem j9n {l i x b}(M:l[i]?=En x):ai pr (X pr) 209 [.ptr 0 (i*3),.aq (je b)] [.cells (bQ je l)]=En (.bq [],Ep,[.cells (bQ je (l.set i b))]):=by
 rw[qh (show pr.bn 209=En DN from rfl) (by simp)];have st:jr (bQ je l) (i*3) [.str b.k,Iv b.a,Iv b.b]=En (bQ je (l.set i b)):=nq (o:=0) tC.len M (E8 rfl) rfl rfl;simp only[go_sem,seval,DN,st,je]<;>rfl
def jsp (l:ak jh)(i:Int)(b:jh):Option (ak jh):=gq l i fun x=>En b
theorem jiw {l i b r}(h:jsp l i b=En r):ae pr (X pr) 208 [sl 3 je l,Iv i,.fn (.func 209) [] [.aq (je b)]]=En (sl 3 je r,Ep):=
 j10 (fun n x y M hy=>by cases hy;exact⟨_,j9n M,z5⟩) h
theorem j5p {l i x b}(M:l[i]?=En x):ai pr (X pr) 216 [.ptr 0 (i*2),.aq (bz b)] [.cells (bQ bz l)]=En (.bq [],Ep,[.cells (bQ bz (l.set i b))]):=by
 rw[qh (show pr.bn 216=En DP from rfl) (by simp)];have st:jr (bQ bz l) (i*2) [.str b.k,Iv b.n]=En (bQ bz (l.set i b)):=nq (o:=0) pY.len M (E8 rfl) rfl rfl;simp only[go_sem,seval,DP,st,bz]<;>rfl
def jr8 (l:ak bD)(i:Int)(b:bD):Option (ak bD):=gq l i fun x=>En b
theorem jjp {l i b r}(h:jr8 l i b=En r):ae pr (X pr) 215 [sl 2 bz l,Iv i,.fn (.func 216) [] [.aq (bz b)]]=En (sl 2 bz r,Ep):=
 jzb (fun n x y M hy=>by cases hy;exact⟨_,j5p M,z5⟩) h
end Go.Z
namespace Go.Z
open Go Go.Abs Go.W
def f135 (O:bD)(J:aj):Option Bool:=
 En (decide (O.k=J))
theorem W0 (hp:qi){O J r}(h:f135 O J=En r):ai pr (X pr) 135 [aN O,.aq (.str J)] hp=En (.bool r,Ep,hp):=by
 unfold f135 at h;have Q:decide (O.k=J)=r:=En.inj h;subst Q;rw[qh (show pr.bn 135=En DQ from rfl) (by simp)];simp only[go_sem,seval,DQ]<;>rfl
def P8 (O:ak bD)(aw:aj)(V:Int):Option (Int⊕(Int⊕Int)):=
 cond (decide (V<((O.getD []).length:Int)))
  (qc (qo (O.getD []) V) fun dm=>
  qc (f135 dm aw) fun dZ=>
  cond dZ
   (En (.inr (.inl V)))
   (En (.inl (qf .i64 (V+1)))))
  (En (.inr (.inr V)))
def P9 (O:ak bD)(aw:aj)(hp:qi)(V:Int):bj:=⟨[(0,sl 2 bz O,Ep),(1,.fn (.func 135) [] [.aq (.str aw)],Ep),(7,Lv O,Ep),(8,Iv V,Ep)],hp⟩
def Qa (O:ak bD)(aw:aj)(hp:qi):Int⊕Int->jc×bj
 | .inl d=>(.ret,⟨[(4,Iv d,Ep)],hp⟩)| .inr d=>(.exit 0,⟨[(0,sl 2 bz O,Ep),(1,.fn (.func 135) [] [.aq (.str aw)],Ep),(7,Lv O,Ep),(8,Iv d,Ep),(9,.bool Ep,Ep)],hp⟩)
theorem joa (O:ak bD)(aw:aj)(hp:qi)(V:Int)(r)(h:P8 O aw V=En r):js pr qB (P9 O aw hp) (Qa O aw hp) V r:=by
 unfold P8 at h
 repeat' first|(replace h:=qd h;obtain⟨d,g,h⟩:=h;with_reducible first|replace g:=W0 hp g|skip)|(replace h:=qe h;rcases h with⟨g,h⟩|⟨g,h⟩)
 all_goals (cases h<;>((first|refine qw ?_|refine jy ?_);simp only[go_sem,seval,qB,P9,jn,Qa, *]<;>rfl))
theorem jnx (O:ak bD)(aw:aj)(hp:qi){V d}(h:bu (P8 O aw) V=En d):X pr (.loop qB) (P9 O aw hp V)=En (Qa O aw hp d):=zq (joa O aw hp) h
def Jg (O:ak bD)(aw:aj):Option Int:=
 qc (bu (P8 O aw) 0) fun d19=>match d19 with
  | .inl d21=>
   En d21
  | .inr d22=>
   En (-1)
theorem jyy (hp:qi){O aw r}(h:Jg O aw=En r):ai pr (X pr) 202 [sl 2 bz O,.fn (.func 135) [] [.aq (.str aw)]] hp=En (Iv r,Ep,hp):=by
 unfold Jg at h;rw[qh (show pr.bn 202=En lD from rfl) (by simp)]
 repeat' first|(replace h:=qd h;obtain⟨d,g,h⟩:=h;with_reducible first|(replace g:=jnx O aw hp g;rcases d with d|d<;>dsimp only[P9,Qa,zp]at g h)|skip)|(replace h:=qe h;rcases h with⟨g,h⟩|⟨g,h⟩)
 all_goals (cases h<;>(simp only[go_sem,seval,lD, *]<;>rfl))
def Qb (O:ak bD)(aw:aj)(V:Int):Option (Int⊕(Int⊕Int)):=
 cond (decide (V<((O.getD []).length:Int)))
  (qc (qo (O.getD []) V) fun dm=>
  qc (f135 dm aw) fun dZ=>
  cond dZ
   (En (.inr (.inl V)))
   (En (.inl (qf .i64 (V+1)))))
  (En (.inr (.inr V)))
def Qc (O:ak bD)(aw:aj)(V:Int):bj:=⟨[(0,sl 2 bz O,Ep),(1,.fn (.func 135) [] [.aq (.str aw)],Ep),(7,Lv O,Ep),(8,Iv V,Ep)],[]⟩
def Qd (O:ak bD)(aw:aj):Int⊕Int->jc×bj
 | .inl d=>(.ret,⟨[(4,Iv d,Ep)],[]⟩)| .inr d=>(.exit 0,⟨[(0,sl 2 bz O,Ep),(1,.fn (.func 135) [] [.aq (.str aw)],Ep),(7,Lv O,Ep),(8,Iv d,Ep),(9,.bool Ep,Ep)],[]⟩)
theorem jns (O:ak bD)(aw:aj)(V:Int)(r)(h:Qb O aw V=En r):js pr qB (Qc O aw) (Qd O aw) V r:=by
 unfold Qb at h
 repeat' first|(replace h:=qd h;obtain⟨d,g,h⟩:=h;with_reducible first|replace g:=W0 [] g|skip)|(replace h:=qe h;rcases h with⟨g,h⟩|⟨g,h⟩)
 all_goals (cases h<;>((first|refine qw ?_|refine jy ?_);simp only[go_sem,seval,qB,Qc,jn,Qd, *]<;>rfl))
theorem jnf (O:ak bD)(aw:aj){V d}(h:bu (Qb O aw) V=En d):X pr (.loop qB) (Qc O aw V)=En (Qd O aw d):=zq (jns O aw) h
def Jd (O:ak bD)(aw:aj):Option Int:=
 qc (bu (Qb O aw) 0) fun d19=>match d19 with
  | .inl d21=>
   En d21
  | .inr d22=>
   En (-1)
theorem j0q {O aw r}(h:Jd O aw=En r):ae pr (X pr) 202 [sl 2 bz O,.fn (.func 135) [] [.aq (.str aw)]]=En (Iv r,Ep):=by
 unfold Jd at h;refine zd lD ?_
 repeat' first|(replace h:=qd h;obtain⟨d,g,h⟩:=h;with_reducible first|(replace g:=jnf O aw g;rcases d with d|d<;>dsimp only[Qc,Qd,zp]at g h)|skip)|(replace h:=qe h;rcases h with⟨g,h⟩|⟨g,h⟩)
 all_goals (cases h<;>(simp only[go_sem,seval,lD, *];exact⟨_,rfl⟩))
def Jf (O:ak bD)(aw:aj):Option Bool:=
 qc (Jg O aw) fun v1=>
 En (decide (0<=v1))
theorem jyx {O aw r}(h:Jf O aw=En r):ae pr (X pr) 136 [sl 2 bz O,.fn (.func 135) [] [.aq (.str aw)]]=En (.bool r,Ep):=by
 unfold Jf at h;refine zd ox ?_
 repeat' first|(replace h:=qd h;obtain⟨d,g,h⟩:=h;with_reducible first|replace g:=jyy [] g|skip)|(replace h:=qe h;rcases h with⟨g,h⟩|⟨g,h⟩)
 all_goals (cases h<;>(simp only[go_sem,seval,ox, *];exact⟨_,rfl⟩))
def f151 (O:bD)(J:ji):Option Bool:=
 En (decide (O.k=J.kind))
theorem j6p (hp:qi){O J r}(h:f151 O J=En r):ai pr (X pr) 151 [aN O,.aq (aL J)] hp=En (.bool r,Ep,hp):=by
 unfold f151 at h;have Q:decide (O.k=J.kind)=r:=En.inj h;subst Q;rw[qh (show pr.bn 151=En DR from rfl) (by simp)];simp only[go_sem,seval,DR]<;>rfl
def Qe (O:ak bD)(aw:ji)(V:Int):Option (Int⊕(Int⊕Int)):=
 cond (decide (V<((O.getD []).length:Int)))
  (qc (qo (O.getD []) V) fun dm=>
  qc (f151 dm aw) fun dZ=>
  cond dZ
   (En (.inr (.inl V)))
   (En (.inl (qf .i64 (V+1)))))
  (En (.inr (.inr V)))
def Qf (O:ak bD)(aw:ji)(hp:qi)(V:Int):bj:=⟨[(0,sl 2 bz O,Ep),(1,.fn (.func 151) [] [.aq (aL aw)],Ep),(7,Lv O,Ep),(8,Iv V,Ep)],hp⟩
def Qg (O:ak bD)(aw:ji)(hp:qi):Int⊕Int->jc×bj
 | .inl d=>(.ret,⟨[(4,Iv d,Ep)],hp⟩)| .inr d=>(.exit 0,⟨[(0,sl 2 bz O,Ep),(1,.fn (.func 151) [] [.aq (aL aw)],Ep),(7,Lv O,Ep),(8,Iv d,Ep),(9,.bool Ep,Ep)],hp⟩)
theorem jpg (O:ak bD)(aw:ji)(hp:qi)(V:Int)(r)(h:Qe O aw V=En r):js pr qB (Qf O aw hp) (Qg O aw hp) V r:=by
 unfold Qe at h
 repeat' first|(replace h:=qd h;obtain⟨d,g,h⟩:=h;with_reducible first|replace g:=j6p hp g|skip)|(replace h:=qe h;rcases h with⟨g,h⟩|⟨g,h⟩)
 all_goals (cases h<;>((first|refine qw ?_|refine jy ?_);simp only[go_sem,seval,qB,Qf,jn,Qg, *]<;>rfl))
theorem jny (O:ak bD)(aw:ji)(hp:qi){V d}(h:bu (Qe O aw) V=En d):X pr (.loop qB) (Qf O aw hp V)=En (Qg O aw hp d):=zq (jpg O aw hp) h
def Ji (O:ak bD)(aw:ji):Option Int:=
 qc (bu (Qe O aw) 0) fun d19=>match d19 with
  | .inl d21=>
   En d21
  | .inr d22=>
   En (-1)
theorem jxq (hp:qi){O aw r}(h:Ji O aw=En r):ai pr (X pr) 202 [sl 2 bz O,.fn (.func 151) [] [.aq (aL aw)]] hp=En (Iv r,Ep,hp):=by
 unfold Ji at h;rw[qh (show pr.bn 202=En lD from rfl) (by simp)]
 repeat' first|(replace h:=qd h;obtain⟨d,g,h⟩:=h;with_reducible first|(replace g:=jny O aw hp g;rcases d with d|d<;>dsimp only[Qf,Qg,zp]at g h)|skip)|(replace h:=qe h;rcases h with⟨g,h⟩|⟨g,h⟩)
 all_goals (cases h<;>(simp only[go_sem,seval,lD, *]<;>rfl))
def Jh (O:ak bD)(aw:ji):Option Bool:=
 qc (Ji O aw) fun v1=>
 En (decide (0<=v1))
theorem j06 {O aw r}(h:Jh O aw=En r):ae pr (X pr) 136 [sl 2 bz O,.fn (.func 151) [] [.aq (aL aw)]]=En (.bool r,Ep):=by
 unfold Jh at h;refine zd ox ?_
 repeat' first|(replace h:=qd h;obtain⟨d,g,h⟩:=h;with_reducible first|replace g:=jxq [] g|skip)|(replace h:=qe h;rcases h with⟨g,h⟩|⟨g,h⟩)
 all_goals (cases h<;>(simp only[go_sem,seval,ox, *];exact⟨_,rfl⟩))
def f140 (O:bD)(mW:aj):Option Bool:=
 qc (f135 O mW) fun v1=>
 En (!v1)
theorem j9z (hp:qi){O mW r}(h:f140 O mW=En r):ai pr (X pr) 140 [aN O,.aq (.fn (.func 135) [] [.aq (.str mW)])] hp=En (.bool r,Ep,hp):=by
 unfold f140 at h;obtain⟨v1,I,h⟩:=qd h;have iY:ai pr (X pr) 135 [aN O,.aq (.str mW)] hp=En (.bool v1,Ep,hp):=W0 hp I;have Q:(!v1)=r:=En.inj h;subst Q;rw[qh (show pr.bn 140=En DS from rfl) (by simp)];simp only[go_sem,seval,DS,iY]<;>rfl
def Je (O:ak bD)(cg:aj)(V:(ak bD)×Int×Bool):Option (((ak bD)×Int×Bool)⊕(((ak bD)×Bool×Int))):=
 cond (decide (V.2.1<((O.getD []).length:Int)))
  (qc (qo (O.getD []) V.2.1) fun v20=>
  qc (f140 v20 cg) fun v22=>
  cond v22
   (cond V.2.2
    (qc (bB V.1 [v20]) fun v26=>
    En (.inl (v26,qf .i64 (V.2.1+1),E3)))
    (cond V.1.isNone
     (qc (bB V.1 [v20]) fun et=>
     En (.inl (et,qf .i64 (V.2.1+1),E3)))
     (E9)))
   (En (.inl (V.1,qf .i64 (V.2.1+1),V.2.2))))
  (En (.inr (V.1,V.2.2,V.2.1)))
def Qh (O:ak bD)(cg:aj)(hp:qi)(V:(ak bD)×Int×Bool):bj:=⟨[(1,.fn (.func 140) [] [.aq (.fn (.func 135) [] [.aq (.str cg)])],Ep),(5,sl 2 bz V.1,V.2.2),(8,sl 2 bz O,Ep),(9,Lv O,Ep),(10,Iv V.2.1,Ep)],hp⟩
def Qi (O:ak bD)(cg:aj)(hp:qi)(d:((ak bD)×Bool×Int)):jc×bj:=(.exit 0,⟨[(1,.fn (.func 140) [] [.aq (.fn (.func 135) [] [.aq (.str cg)])],Ep),(5,sl 2 bz d.1,d.2.1),(8,sl 2 bz O,Ep),(9,Lv O,Ep),(10,Iv d.2.2,Ep),(11,.bool Ep,Ep)],hp⟩)
theorem jta (O:ak bD)(cg:aj)(hp:qi)(V:(ak bD)×Int×Bool)(r)(h:Je O cg V=En r):js pr Qj (Qh O cg hp) (Qi O cg hp) V r:=by
 unfold Je at h
 repeat' first|(replace h:=qd h;obtain⟨d,g,h⟩:=h;with_reducible first|replace g:=j9z hp g|replace g:=Bc g|skip)|(replace h:=qe h;rcases h with⟨g,h⟩|⟨g,h⟩)
 all_goals (cases h<;>((first|refine qw ?_|refine jy ?_);simp only[go_sem,seval,Qj,Qh,jn,Qi, *]<;>rfl))
theorem jrh (O:ak bD)(cg:aj)(hp:qi){V d}(h:bu (Je O cg) V=En d):X pr (.loop Qj) (Qh O cg hp V)=En (Qi O cg hp d):=zq (jta O cg hp) h
def f139 (O:ak bD)(cg:aj):Option ((ak bD)×Bool):=
 qc (bu (Je O cg) (E9,0,Ep)) fun d31=>
 En (d31.1,d31.2.1)
theorem j7b (hp:qi){O cg r}(h:f139 O cg=En r):ai pr (X pr) 139 [sl 2 bz O,.fn (.func 140) [] [.aq (.fn (.func 135) [] [.aq (.str cg)])]] hp=En (sl 2 bz r.1,r.2,hp):=by
 unfold f139 at h;rw[qh (show pr.bn 139=En DT from rfl) (by simp)]
 repeat' first|(replace h:=qd h;obtain⟨d,g,h⟩:=h;with_reducible first|(replace g:=jrh O cg hp g;dsimp only[Qh,Qi,zp]at g h)|skip)|(replace h:=qe h;rcases h with⟨g,h⟩|⟨g,h⟩)
 all_goals (cases h<;>(simp only[go_sem,seval,DT, *]<;>rfl))
def f141 (O:ak bD)(J:bD)(dQ:aj):Option ((ak bD)×Bool):=
 qc (Jd O dQ) fun v1=>
 cond (decide (0<=v1))
  (qc (jvw O v1 J) fun v4=>
  En (v4,Ep))
  (qc (f206 O J) fun v6=>
  En (v6,E3))
theorem j6m {O J dQ r}(h:f141 O J dQ=En r):ae pr (X pr) 141 [sl 2 bz O,aN J,.fn (.func 135) [] [.aq (.str dQ)]]=En (sl 2 bz r.1,r.2):=by
 unfold f141 at h;refine yf DU ?_
 repeat' first|(replace h:=qd h;obtain⟨d,g,h⟩:=h; (with_reducible first|replace g:=j0q g|replace g:=jln g|replace g:=j6y g|skip);try dsimp only[zp,nu,G7,zg,jf,jd,qz,bC,ju,vev,bz,je,yr,aE,aR,aU,aL,aP,aD]at g)|(replace h:=qe h;rcases h with⟨g,h⟩|⟨g,h⟩)
 all_goals (cases h<;>(simp only[go_sem,seval,DU, *];exact⟨_,rfl⟩))
def f142 (O:jh)(J:jh):Option Bool:=
 En (decide (O.k=J.k))
theorem j6c (hp:qi){O J r}(h:f142 O J=En r):ai pr (X pr) 142 [aT O,.aq (aT J)] hp=En (.bool r,Ep,hp):=by
 unfold f142 at h;have Q:decide (O.k=J.k)=r:=En.inj h;subst Q;rw[qh (show pr.bn 142=En DV from rfl) (by simp)];simp only[go_sem,seval,DV]<;>rfl
def Qk (O:ak jh)(aw:jh)(V:Int):Option (Int⊕(Int⊕Int)):=
 cond (decide (V<((O.getD []).length:Int)))
  (qc (qo (O.getD []) V) fun dm=>
  qc (f142 dm aw) fun dZ=>
  cond dZ
   (En (.inr (.inl V)))
   (En (.inl (qf .i64 (V+1)))))
  (En (.inr (.inr V)))
def Ql (O:ak jh)(aw:jh)(V:Int):bj:=⟨[(0,sl 3 je O,Ep),(1,.fn (.func 142) [] [.aq (aT aw)],Ep),(7,Lv O,Ep),(8,Iv V,Ep)],[]⟩
def Qm (O:ak jh)(aw:jh):Int⊕Int->jc×bj
 | .inl d=>(.ret,⟨[(4,Iv d,Ep)],[]⟩)| .inr d=>(.exit 0,⟨[(0,sl 3 je O,Ep),(1,.fn (.func 142) [] [.aq (aT aw)],Ep),(7,Lv O,Ep),(8,Iv d,Ep),(9,.bool Ep,Ep)],[]⟩)
theorem joi (O:ak jh)(aw:jh)(V:Int)(r)(h:Qk O aw V=En r):js pr DW (Ql O aw) (Qm O aw) V r:=by
 unfold Qk at h
 repeat' first|(replace h:=qd h;obtain⟨d,g,h⟩:=h;with_reducible first|replace g:=j6c [] g|skip)|(replace h:=qe h;rcases h with⟨g,h⟩|⟨g,h⟩)
 all_goals (cases h<;>((first|refine qw ?_|refine jy ?_);simp only[go_sem,seval,DW,Ql,jn,Qm, *]<;>rfl))
theorem jnk (O:ak jh)(aw:jh){V d}(h:bu (Qk O aw) V=En d):X pr (.loop DW) (Ql O aw V)=En (Qm O aw d):=zq (joi O aw) h
def yE (O:ak jh)(aw:jh):Option Int:=
 qc (bu (Qk O aw) 0) fun d19=>match d19 with
  | .inl d21=>
   En d21
  | .inr d22=>
   En (-1)
theorem jm9 {O aw r}(h:yE O aw=En r):ae pr (X pr) 207 [sl 3 je O,.fn (.func 142) [] [.aq (aT aw)]]=En (Iv r,Ep):=by
 unfold yE at h;refine zd tE ?_
 repeat' first|(replace h:=qd h;obtain⟨d,g,h⟩:=h;with_reducible first|(replace g:=jnk O aw g;rcases d with d|d<;>dsimp only[Ql,Qm,zp]at g h)|skip)|(replace h:=qe h;rcases h with⟨g,h⟩|⟨g,h⟩)
 all_goals (cases h<;>(simp only[go_sem,seval,tE, *];exact⟨_,rfl⟩))
def Jj (O:ak jh)(aw:jh):Option Bool:=
 qc (yE O aw) fun v1=>
 En (decide (0<=v1))
theorem jx3 {O aw r}(h:Jj O aw=En r):ae pr (X pr) 143 [sl 3 je O,.fn (.func 142) [] [.aq (aT aw)]]=En (.bool r,Ep):=by
 unfold Jj at h;refine zd tF ?_
 repeat' first|(replace h:=qd h;obtain⟨d,g,h⟩:=h;with_reducible first|replace g:=jm9 g|skip)|(replace h:=qe h;rcases h with⟨g,h⟩|⟨g,h⟩)
 all_goals (cases h<;>(simp only[go_sem,seval,tF, *];exact⟨_,rfl⟩))
def f145 (O:ak jh)(J:jh)(dQ:jh):Option ((ak jh)×Bool):=
 qc (yE O dQ) fun v1=>
 cond (decide (0<=v1))
  (qc (jsp O v1 J) fun v4=>
  En (v4,Ep))
  (qc (f210 O J) fun v6=>
  En (v6,E3))
theorem zay {O J dQ r}(h:f145 O J dQ=En r):ae pr (X pr) 145 [sl 3 je O,aT J,.fn (.func 142) [] [.aq (aT dQ)]]=En (sl 3 je r.1,r.2):=by
 unfold f145 at h;refine yf DX ?_
 repeat' first|(replace h:=qd h;obtain⟨d,g,h⟩:=h; (with_reducible first|replace g:=jm9 g|replace g:=jiw g|replace g:=zbk g|skip);try dsimp only[zp,nu,G7,zg,jf,jd,qz,bC,ju,vev,bz,je,yr,aE,aR,aU,aL,aP,aD]at g)|(replace h:=qe h;rcases h with⟨g,h⟩|⟨g,h⟩)
 all_goals (cases h<;>(simp only[go_sem,seval,DX, *];exact⟨_,rfl⟩))
def f159 (O:jh)(J:GEv):Option Bool:=
 qc (qo (J.names.getD []) 1) fun v1=>
 En (decide (O.k=v1))
theorem j7l (hp:qi){O J r}(h:f159 O J=En r):ai pr (X pr) 159 [aT O,.aq (aE J)] hp=En (.bool r,Ep,hp):=by
 unfold f159 at h;obtain⟨v1,I,h⟩:=qd h;have Q:decide (O.k=v1)=r:=En.inj h;subst Q;rw[qh (show pr.bn 159=En DY from rfl) (by simp)];simp only[go_sem,seval,DY,jg I]<;>rfl
def Jm (O:ak jh)(aw:GEv)(V:Int):Option (Int⊕(Int⊕Int)):=
 cond (decide (V<((O.getD []).length:Int)))
  (qc (qo (O.getD []) V) fun dm=>
  qc (f159 dm aw) fun dZ=>
  cond dZ
   (En (.inr (.inl V)))
   (En (.inl (qf .i64 (V+1)))))
  (En (.inr (.inr V)))
def Qn (O:ak jh)(aw:GEv)(V:Int):bj:=⟨[(0,sl 3 je O,Ep),(1,.fn (.func 159) [] [.aq (aE aw)],Ep),(7,Lv O,Ep),(8,Iv V,Ep)],[]⟩
def Qo (O:ak jh)(aw:GEv):Int⊕Int->jc×bj
 | .inl d=>(.ret,⟨[(4,Iv d,Ep)],[]⟩)| .inr d=>(.exit 0,⟨[(0,sl 3 je O,Ep),(1,.fn (.func 159) [] [.aq (aE aw)],Ep),(7,Lv O,Ep),(8,Iv d,Ep),(9,.bool Ep,Ep)],[]⟩)
theorem joq (O:ak jh)(aw:GEv)(V:Int)(r)(h:Jm O aw V=En r):js pr DW (Qn O aw) (Qo O aw) V r:=by
 unfold Jm at h
 repeat' first|(replace h:=qd h;obtain⟨d,g,h⟩:=h;with_reducible first|replace g:=j7l [] g|skip)|(replace h:=qe h;rcases h with⟨g,h⟩|⟨g,h⟩)
 all_goals (cases h<;>((first|refine qw ?_|refine jy ?_);simp only[go_sem,seval,DW,Qn,jn,Qo, *]<;>rfl))
theorem jod (O:ak jh)(aw:GEv){V d}(h:bu (Jm O aw) V=En d):X pr (.loop DW) (Qn O aw V)=En (Qo O aw d):=zq (joq O aw) h
def Jl (O:ak jh)(aw:GEv):Option Int:=
 qc (bu (Jm O aw) 0) fun d19=>match d19 with
  | .inl d21=>
   En d21
  | .inr d22=>
   En (-1)
theorem j0x {O aw r}(h:Jl O aw=En r):ae pr (X pr) 207 [sl 3 je O,.fn (.func 159) [] [.aq (aE aw)]]=En (Iv r,Ep):=by
 unfold Jl at h;refine zd tE ?_
 repeat' first|(replace h:=qd h;obtain⟨d,g,h⟩:=h;with_reducible first|(replace g:=jod O aw g;rcases d with d|d<;>dsimp only[Qn,Qo,zp]at g h)|skip)|(replace h:=qe h;rcases h with⟨g,h⟩|⟨g,h⟩)
 all_goals (cases h<;>(simp only[go_sem,seval,tE, *];exact⟨_,rfl⟩))
def Jk (O:ak jh)(aw:GEv):Option Bool:=
 qc (Jl O aw) fun v1=>
 En (decide (0<=v1))
theorem jz9 {O aw r}(h:Jk O aw=En r):ae pr (X pr) 143 [sl 3 je O,.fn (.func 159) [] [.aq (aE aw)]]=En (.bool r,Ep):=by
 unfold Jk at h;refine zd tF ?_
 repeat' first|(replace h:=qd h;obtain⟨d,g,h⟩:=h;with_reducible first|replace g:=j0x g|skip)|(replace h:=qe h;rcases h with⟨g,h⟩|⟨g,h⟩)
 all_goals (cases h<;>(simp only[go_sem,seval,tF, *];exact⟨_,rfl⟩))
def f154 (O:bD)(J:ji):Option Bool:=
 En (decide (O.k=J.name))
theorem j59 (hp:qi){O J r}(h:f154 O J=En r):ai pr (X pr) 154 [aN O,.aq (aL J)] hp=En (.bool r,Ep,hp):=by
 unfold f154 at h;have Q:decide (O.k=J.name)=r:=En.inj h;subst Q;rw[qh (show pr.bn 154=En DZ from rfl) (by simp)];simp only[go_sem,seval,DZ]<;>rfl
def Qp (O:ak bD)(aw:ji)(V:Int):Option (Int⊕(Int⊕Int)):=
 cond (decide (V<((O.getD []).length:Int)))
  (qc (qo (O.getD []) V) fun dm=>
  qc (f154 dm aw) fun dZ=>
  cond dZ
   (En (.inr (.inl V)))
   (En (.inl (qf .i64 (V+1)))))
  (En (.inr (.inr V)))
def Qq (O:ak bD)(aw:ji)(V:Int):bj:=⟨[(0,sl 2 bz O,Ep),(1,.fn (.func 154) [] [.aq (aL aw)],Ep),(7,Lv O,Ep),(8,Iv V,Ep)],[]⟩
def Qr (O:ak bD)(aw:ji):Int⊕Int->jc×bj
 | .inl d=>(.ret,⟨[(4,Iv d,Ep)],[]⟩)| .inr d=>(.exit 0,⟨[(0,sl 2 bz O,Ep),(1,.fn (.func 154) [] [.aq (aL aw)],Ep),(7,Lv O,Ep),(8,Iv d,Ep),(9,.bool Ep,Ep)],[]⟩)
theorem jul (O:ak bD)(aw:ji)(V:Int)(r)(h:Qp O aw V=En r):js pr Qt (Qq O aw) (Qr O aw) V r:=by
 unfold Qp at h
 repeat' first|(replace h:=qd h;obtain⟨d,g,h⟩:=h;with_reducible first|replace g:=j59 [] g|skip)|(replace h:=qe h;rcases h with⟨g,h⟩|⟨g,h⟩)
 all_goals (cases h<;>((first|refine qw ?_|refine jy ?_);simp only[go_sem,seval,Qt,Qq,jn,Qr, *]<;>rfl))
theorem jrj (O:ak bD)(aw:ji){V d}(h:bu (Qp O aw) V=En d):X pr (.loop Qt) (Qq O aw V)=En (Qr O aw d):=zq (jul O aw) h
def f155 (O:ak bD)(aw:ji):Option Int:=
 qc (bu (Qp O aw) 0) fun d19=>match d19 with
  | .inl d21=>
   En d21
  | .inr d22=>
   En (-1)
theorem jr9 {O aw r}(h:f155 O aw=En r):ae pr (X pr) 155 [sl 2 bz O,.fn (.func 154) [] [.aq (aL aw)]]=En (Iv r,Ep):=by
 unfold f155 at h;refine zd D0 ?_
 repeat' first|(replace h:=qd h;obtain⟨d,g,h⟩:=h;with_reducible first|(replace g:=jrj O aw g;rcases d with d|d<;>dsimp only[Qq,Qr,zp]at g h)|skip)|(replace h:=qe h;rcases h with⟨g,h⟩|⟨g,h⟩)
 all_goals (cases h<;>(simp only[go_sem,seval,D0, *];exact⟨_,rfl⟩))
def f158 (O:ak bD)(J:bD)(dQ:ji):Option ((ak bD)×Bool):=
 qc (f155 O dQ) fun v1=>
 cond (decide (0<=v1))
  (qc (jr8 O v1 J) fun v4=>
  En (v4,Ep))
  (qc (f217 O J) fun v6=>
  En (v6,E3))
theorem j42 {O J dQ r}(h:f158 O J dQ=En r):ae pr (X pr) 158 [sl 2 bz O,aN J,.fn (.func 154) [] [.aq (aL dQ)]]=En (sl 2 bz r.1,r.2):=by
 unfold f158 at h;refine yf D1 ?_
 repeat' first|(replace h:=qd h;obtain⟨d,g,h⟩:=h; (with_reducible first|replace g:=jr9 g|replace g:=jjp g|replace g:=j52 g|skip);try dsimp only[zp,nu,G7,zg,jf,jd,qz,bC,ju,vev,bz,je,yr,aE,aR,aU,aL,aP,aD]at g)|(replace h:=qe h;rcases h with⟨g,h⟩|⟨g,h⟩)
 all_goals (cases h<;>(simp only[go_sem,seval,D1, *];exact⟨_,rfl⟩))
end Go.Z
namespace Go.Z
open Go Go.Abs Go.W
theorem GG {α:Type}{f:α->AVal}{sz}(E:pX f sz){l i o x y u}(M:l[i]?=En x)(ho:o<sz)(hy:(f y).flat=(f x).flat.set o u)(w:Bool):((bQ f l).set (i*sz+o) (u,w)).map (·.1)=zh f (l.set i y):=by
 have h:=congrArg (G7 (·.1)) (q87 E.len M ho hy);rw[List.map_set]at h ⊢;rw[show(bQ f (l.set i y)).map (·.1)=zh f (l.set i y)from z5]at h;exact h
theorem KA {α:Type}{f:α->AVal}{sz}(E:pX f sz){l i o x}(M:l[i]?=En x)(ho:o<sz):i*sz+o<(bQ f l).length:=by
 have h:=(Fi (n:=1) (o:=o) E.len M (by omega)).2;simp only[bQ,cellsOf,Hb];omega
def Jo (c:Int)(nm k:aj)(x:bm):Option bm:=cond (decide (c=0))
 (qc (f139 x.dn nm) fun v=>En { x with dn:=v.1 })
 (qc (f141 x.dn ⟨k,c⟩ nm) fun v=>En { x with dn:=v.1 })
theorem j81 {l:List bm}{i:Nat}{x y c nm k}(M:l[i]?=En x)(h:Jo c nm k x=En y):
  ∃cs,ai pr (X pr) 138 [.ptr 0 (i*4+1),.aq (Iv c),.aq (.fn (.func 135) [] [.aq (.str nm)]),.aq (.str k)] [.cells (bQ qz l)]=En (.bq [],Ep,[.cells cs])/\cs.map (·.1)=zh qz (l.set i y):=by
 unfold Jo at h;have ld:zm (bQ qz l) (i*4+1) 1=En [sl 2 bz x.dn]:=wc (o:=1) cJ.len M (by decide);have hb:=KA cJ (o:=1) M (by decide);rcases qe h with⟨Y,h⟩|⟨Y,h⟩
 .obtain⟨v,hv,h⟩:=qd h;cases h;have w:=j7b [.cells (bQ qz l)] hv;rcases v with⟨v,o⟩;have hy:(qz { x with dn:=v }).flat=(qz x).flat.set 1 (sl 2 bz v):=rfl;have st:jr (bQ qz l) (i*4+1) [sl 2 bz v]=En (bQ qz (l.set i { x with dn:=v })):=nq (o:=1) cJ.len M (E8 rfl) (by simp only[Hg,go_sem,G8]) rfl
  cases o with
  |true=>exact⟨_,by rw[qh (show pr.bn 138=En lE from rfl) (by simp)];simp only[go_sem,seval,lE,Y,ld,w,hb]<;>rfl,GG cJ M (by decide) hy E3⟩|false=>exact⟨_,by rw[qh (show pr.bn 138=En lE from rfl) (by simp)];simp only[go_sem,seval,lE,Y,ld,w,st]<;>rfl,z5⟩
 .obtain⟨v,hv,h⟩:=qd h;cases h;have w:ae pr (X pr) 141 [sl 2 bz x.dn,.agg [.str k,Iv c],.fn (.func 135) [] [.aq (.str nm)]]=En (sl 2 bz v.1,v.2):=j6m hv;rcases v with⟨v,o⟩;have hy:(qz { x with dn:=v }).flat=(qz x).flat.set 1 (sl 2 bz v):=rfl;have st:jr (bQ qz l) (i*4+1) [sl 2 bz v]=En (bQ qz (l.set i { x with dn:=v })):=nq (o:=1) cJ.len M (E8 rfl) (by simp only[Hg,go_sem,G8]) rfl
  cases o with
  |true=>exact⟨_,by rw[qh (show pr.bn 138=En lE from rfl) (by simp)];simp only[go_sem,seval,lE,Y,ld,w,hb]<;>rfl,GG cJ M (by decide) hy E3⟩|false=>exact⟨_,by rw[qh (show pr.bn 138=En lE from rfl) (by simp)];simp only[go_sem,seval,lE,Y,ld,w,st]<;>rfl,z5⟩
def Ui (l:ak bm)(i:Int)(c:Int)(nm k:aj):Option (ak bm):=gq l i (Jo c nm k)
theorem jlh {l i c nm k r}(h:Ui l i c nm k=En r):ae pr (X pr) 146 [sl 4 qz l,Iv i,.fn (.func 203) [] [.aq (.fn (.func 138) [] [.aq (Iv c),.aq (.fn (.func 135) [] [.aq (.str nm)]),.aq (.str k)])]]=En (sl 4 qz r,Ep):=by
 refine WX (fun n x y M hy=>?_) h;obtain⟨cs,Y,I⟩:=j81 M hy;exact⟨cs,by rw[qh (show pr.bn 203=En tG from rfl) (by simp)];simp only[go_sem,seval,tG,Y]<;>rfl,I⟩
def Jp (t s:jh)(x:bm):Option bm:=qc (f145 x.dt t s) fun v=>En { x with dt:=v.1 }
theorem zax {l:List bm}{i:Nat}{x y t s}(M:l[i]?=En x)(h:Jp t s x=En y):
  ∃cs,ai pr (X pr) 144 [.ptr 0 (i*4+1),.aq (je t),.aq (.fn (.func 142) [] [.aq (je s)])] [.cells (bQ qz l)]=En (.bq [],Ep,[.cells cs])/\cs.map (·.1)=zh qz (l.set i y):=by
 unfold Jp at h;have ld:zm (bQ qz l) (i*4+1+1) 1=En [sl 3 je x.dt]:=wc (o:=2) cJ.len M (by decide);have hb:i*4+1+1<(bQ qz l).length:=KA cJ (o:=2) M (by decide);obtain⟨v,hv,h⟩:=qd h;cases h;have w:ae pr (X pr) 145 [sl 3 je x.dt,aT t,.fn (.func 142) [] [.aq (aT s)]]=En (sl 3 je v.1,v.2):=zay hv;rcases v with⟨v,o⟩;have hy:(qz { x with dt:=v }).flat=(qz x).flat.set 2 (sl 3 je v):=rfl;have st:jr (bQ qz l) (i*4+1+1) [sl 3 je v]=En (bQ qz (l.set i { x with dt:=v })):=nq (o:=2) cJ.len M (E8 rfl) (by simp only[Hg,go_sem,G8]) rfl
 cases o with
 |true=>exact⟨_,by rw[qh (show pr.bn 144=En tH from rfl) (by simp)];simp only[go_sem,seval,tH,je,ld,w,hb]<;>rfl,GG cJ (o:=2) M (by decide) hy E3⟩|false=>exact⟨_,by rw[qh (show pr.bn 144=En tH from rfl) (by simp)];simp only[go_sem,seval,tH,je,ld,w,st]<;>rfl,z5⟩
def Uj (l:ak bm)(i:Int)(t s:jh):Option (ak bm):=gq l i (Jp t s)
theorem jk2 {l i t s r}(h:Uj l i t s=En r):ae pr (X pr) 146 [sl 4 qz l,Iv i,.fn (.func 203) [] [.aq (.fn (.func 144) [] [.aq (je t),.aq (.fn (.func 142) [] [.aq (je s)])])]]=En (sl 4 qz r,Ep):=by
 refine WX (fun n x y M hy=>?_) h;obtain⟨cs,Y,I⟩:=zax M hy;simp only[jg0]at Y;exact⟨cs,by rw[qh (show pr.bn 203=En tG from rfl) (by simp)];simp only[go_sem,seval,tG,Y]<;>rfl,I⟩
def Nn (x:bm):Option bm:=qc (f149 ⟨x.dn,x.dt⟩) fun d=>qc (f148 x.bg d) fun v=>En { x with bg:=v }
theorem j5d {l:List bm}{i:Nat}{x y}(M:l[i]?=En x)(h:Nn x=En y):
  ∃cs,ai pr (X pr) 147 [.ptr 0 (i*4)] [.cells (bQ qz l)]=En (.bq [],Ep,[.cells cs])/\cs.map (·.1)=zh qz (l.set i y):=by
 unfold Nn at h;have ld:zm (bQ qz l) (i*4+3) 1=En [sl 2 yr x.bg]:=wc (o:=3) cJ.len M (by decide);have W1:zm (bQ qz l) (i*4+1) 2=En [sl 2 bz x.dn,sl 3 je x.dt]:=wc (o:=1) cJ.len M (by decide);have hb:i*4+3<(bQ qz l).length:=KA cJ (o:=3) M (by decide);obtain⟨d,hd,h⟩:=qd h;obtain⟨v,hv,h⟩:=qd h;cases h;have w:ae pr (X pr) 149 [.agg [sl 2 bz x.dn,sl 3 je x.dt]]=En (aD d,Ep):=j7f hd;have w2:ae pr (X pr) 148 [sl 2 yr x.bg,aD d]=En (sl 2 yr v,E3):=j5h hv;have hy:(qz { x with bg:=v }).flat=(qz x).flat.set 3 (sl 2 yr v):=rfl;exact⟨_,by rw[qh (show pr.bn 147=En D3 from rfl) (by simp)];simp only[go_sem,seval,D3,ld,W1,w,w2,hb]<;>rfl,GG cJ (o:=3) M (by decide) hy E3⟩
def Nk (l:ak bm)(i:Int):Option (ak bm):=gq l i Nn
theorem jk1 {l i r}(h:Nk l i=En r):ae pr (X pr) 146 [sl 4 qz l,Iv i,.fn (.func 147) [] []]=En (sl 4 qz r,Ep):=
 WX (fun n x y M hy=>j5d M hy) h
def Np (e:GEv)(x:bp):Option bp:=qc (qo (e.names.getD []) 1) fun n=>qc (qo (e.values.getD []) 1) fun b=>qc (f161 x.results ⟨n,x.version,b⟩) fun v=>En { x with results:=v }
theorem j6o {l:List bp}{i:Nat}{x y e}(M:l[i]?=En x)(h:Np e x=En y):
  ∃cs,ai pr (X pr) 160 [.ptr 0 (i*8),.aq (vev e)] [.cells (bQ bC l)]=En (.bq [],Ep,[.cells cs])/\cs.map (·.1)=zh bC (l.set i y):=by
 unfold Np at h;have ld:zm (bQ bC l) (i*8+4) 1=En [sl 3 je x.results]:=wc (o:=4) ek.len M (by decide);have W1:zm (bQ bC l) (i*8+2) 1=En [Iv x.version]:=wc (o:=2) ek.len M (by decide);have hb:i*8+4<(bQ bC l).length:=KA ek (o:=4) M (by decide);obtain⟨n,hn,h⟩:=qd h;obtain⟨b,E4,h⟩:=qd h;obtain⟨v,hv,h⟩:=qd h;cases h;have w:ae pr (X pr) 161 [sl 3 je x.results,.agg [.str n,Iv x.version,Iv b]]=En (sl 3 je v,E3):=zac hv;have hy:(bC { x with results:=v }).flat=(bC x).flat.set 4 (sl 3 je v):=rfl;exact⟨_,by rw[qh (show pr.bn 160=En D5 from rfl) (by simp)];simp only[go_sem,seval,D5,vev,jg hn,jg E4,ld,W1,w,hb]<;>rfl,GG ek (o:=4) M (by decide) hy E3⟩
def Uq (l:ak bp)(i:Int)(e:GEv):Option (ak bp):=gq l i (Np e)
theorem jil {l i e r}(h:Uq l i e=En r):ae pr (X pr) 156 [sl 8 bC l,Iv i,.fn (.func 160) [] [.aq (vev e)]]=En (sl 8 bC r,Ep):=
 GF (fun n x y M hy=>j6o M hy) h
def FA (s:bD)(t:ji)(x:bp):Option bp:=qc (f158 x.uses s t) fun v=>En { x with uses:=v.1 }
theorem jv7 {b0 b1 b2 b3:bG}{l:List bp}{i x y s t}(M:l[i]?=En x)(h:FA s t x=En y):
  ∃cs,ai pr (X pr) 157 [.ptr 5 (i*8),.ptr 4 0,.aq (.fn (.func 154) [] [.aq (jd t)])] [b0,b1,b2,b3,.cells [(.str s.k,Ep),(Iv s.n,Ep)],.cells (bQ bC l)]=En (.bq [],Ep,[b0,b1,b2,b3,.cells [(.str s.k,Ep),(Iv s.n,Ep)],.cells cs])/\cs.map (·.1)=zh bC (l.set i y):=by
 unfold FA at h;have ld:zm (bQ bC l) (i*8+3) 1=En [sl 2 bz x.uses]:=wc (o:=3) ek.len M (by decide);have hb:i*8+3<(bQ bC l).length:=KA ek (o:=3) M (by decide);obtain⟨v,hv,h⟩:=qd h;cases h;have w:ae pr (X pr) 158 [sl 2 bz x.uses,aN s,.fn (.func 154) [] [.aq (aL t)]]=En (sl 2 bz v.1,v.2):=j42 hv;rcases v with⟨v,o⟩;have hy:(bC { x with uses:=v }).flat=(bC x).flat.set 3 (sl 2 bz v):=rfl;have st:jr (bQ bC l) (i*8+3) [sl 2 bz v]=En (bQ bC (l.set i { x with uses:=v })):=nq (o:=3) ek.len M (E8 rfl) (by simp only[Hg,go_sem,G8]) rfl
 cases o with
 |true=>exact⟨_,by rw[qh (show pr.bn 157=En tI from rfl) (by simp)];simp only[go_sem,seval,tI,jd,ld,w,hb]<;>rfl,GG ek (o:=3) M (by decide) hy E3⟩|false=>exact⟨_,by rw[qh (show pr.bn 157=En tI from rfl) (by simp)];simp only[go_sem,seval,tI,jd,ld,w,st]<;>rfl,z5⟩
end Go.Z
namespace Go.Z
open Go Go.Abs Go.W
def Bm {α:Type}(l:Option (List α))(i:Int)(x:α):Option (Option (List α)):=
 if(l.getD []).length<=1073741824/\0<=i/\i<(l.getD []).length then En (En ((l.getD []).set i.toNat x))else E9
theorem W2 {α:Type}{l:Option (List α)}{i x r}(h:Bm l i x=En r):∃(n:Nat),i=(n:Int)/\(l.getD []).length<=1073741824/\n<(l.getD []).length/\r=En ((l.getD []).set n x):=by
 unfold Bm at h;split at h
 .rename_i hc;cases h;exact⟨i.toNat,(Int.toNat_of_nonneg hc.2.1).symm,hc.1,by omega,rfl⟩
 .cases h
section
variable {α:Type}{f:α->AVal}{sz:Nat}{h:qi}
theorem jdk {l}:cellsOf ((l.map f).flatMap AVal.flat)=bQ f l:=rfl
theorem W3 (E:pX f sz){n0 r b t l}(hl:(l.getD []).length<=1073741824)(hb:b<=4096){h'}(hh:aK n0 h r (.cells (bQ f (l.getD [])))=En h'):BJ n0 r sz b h (En t) (En (.list Ep sz [])) (En (sl sz f l))=En ⟨.ms (n0+r) 0 (l.getD []).length,Ep,En t,h'⟩:=by
 have G:yb sz (sl sz f l)=En ((l.getD []).map f):=TC
 have Y:0<sz:=by have:=E.big;omega
 simp only[BJ];rw[G];simp only[Option.isSome_some,Ha,G8,cond_true,Hb,G5 hl,G5 hb,Hk.mpr Y,jdk,hh]
theorem W7 (E:pX f sz){l i y}(hi:i<l.length):jr (bQ f l) (i*sz) (f y).flat=En (bQ f (l.set i y)):=by
 have M:l[i]?=En l[i]:=List.getElem?_eq_getElem hi;have hl:=E.len l[i];have hly:=E.len y;have:=nq (o:=0) (us:=(f y).flat) (y:=y) E.len M (by omega) (E.sc y) (by rw[Hp,Hf,Hc (by omega),Ho]);rw[Nat.add_zero]at this;exact this
end
def f188 (O:av)(J:Int)(x:ji):Option av:=qc (Bm O.ay J x) fun v=>En { O with ay:=v }
theorem juo {O:av}{J:Int}{x r}(h:f188 O J x=En r):ae pr (X pr) 188 [aR O,Iv J,aL x]=En (aR r,Ep):=by
 obtain⟨v,hv,h⟩:=qd h;cases h;obtain⟨n,rfl,hl,hi,rfl⟩:=W2 hv
 have ap:BJ 2 0 5 56 [kR O.day O.ay O.ah O.units,kZ,.hole] (En 7) (En (.list Ep 5 [])) (En (sl 5 jd O.ay))=En ⟨.ms 2 0 (O.ay.getD []).length,Ep,En 7,[kR O.day O.ay O.ah O.units,kZ,.cells (bQ jd (O.ay.getD []))]⟩:=by apply W3 gv<;>first|exact hl|rfl|decide
 have st:jr (bQ jd (O.ay.getD [])) (n*5) [.str x.name,.str x.kind,Iv x.count,Iv x.left,.bool x.held]=En (bQ jd ((O.ay.getD []).set n x)):=W7 (y:=x) gv hi
 have this:ai pr (X pr) 188 [aR O,Iv (n:Int),aL x] []=En (.agg [Iv O.day,.ms 2 0 (O.ay.getD []).length,sl 4 qz O.ah,sl 8 bC O.units],Ep,[.cells [(Iv O.day,Ep),(.ms 2 0 (O.ay.getD []).length,Ep),(sl 4 qz O.ah,Ep),(sl 8 bC O.units,Ep)],.cells [(Iv O.day,Ep),(.ms 2 0 (O.ay.getD []).length,Ep),(sl 4 qz O.ah,Ep),(sl 8 bC O.units,Ep)],.cells (bQ jd ((O.ay.getD []).set n x))]):=by
  rw[qh (show pr.bn 188=En D6 from rfl) (by simp)];simp only[go_sem,seval,D6,ap,vq hi,st]<;>rfl
 have fz:kr [.cells [(Iv O.day,Ep),(.ms 2 0 (O.ay.getD []).length,Ep),(sl 4 qz O.ah,Ep),(sl 8 bC O.units,Ep)],.cells [(Iv O.day,Ep),(.ms 2 0 (O.ay.getD []).length,Ep),(sl 4 qz O.ah,Ep),(sl 8 bC O.units,Ep)],.cells (bQ jd ((O.ay.getD []).set n x))] (.ms 2 0 (O.ay.getD []).length)=En (sl 5 jd (En ((O.ay.getD []).set n x))):=by
  have:=vp gv (l:=(O.ay.getD []).set n x) (by rw[G4];omega) (cs:=bQ jd ((O.ay.getD []).set n x)) z5;rw[G4]at this;exact this
 refine jo rfl this (v':=.agg [Iv O.day,sl 5 jd (En ((O.ay.getD []).set n x)),sl 4 qz O.ah,sl 8 bC O.units]) ?_ (by first|rfl|simp only[go_sem,seval]);rw[TJ];simp only[go_sem,seval,fz]<;>rfl
def f187 (O:av)(J:Int)(x:bm):Option av:=qc (Bm O.ah J x) fun v=>En { O with ah:=v }
theorem j50 {O:av}{J:Int}{x r}(h:f187 O J x=En r):ae pr (X pr) 187 [aR O,Iv J,aP x]=En (aR r,Ep):=by
 obtain⟨v,hv,h⟩:=qd h;cases h;obtain⟨n,rfl,hl,hi,rfl⟩:=W2 hv
 have ap:BJ 2 0 4 88 [kR O.day O.ay O.ah O.units,kZ,.hole] (En 7) (En (.list Ep 4 [])) (En (sl 4 qz O.ah))=En ⟨.ms 2 0 (O.ah.getD []).length,Ep,En 7,[kR O.day O.ay O.ah O.units,kZ,.cells (bQ qz (O.ah.getD []))]⟩:=by apply W3 cJ<;>first|exact hl|rfl|decide
 have st:jr (bQ qz (O.ah.getD [])) (n*4) [.str x.name,sl 2 bz x.dn,sl 3 je x.dt,sl 2 yr x.bg]=En (bQ qz ((O.ah.getD []).set n x)):=W7 (y:=x) cJ hi
 have this:ai pr (X pr) 187 [aR O,Iv (n:Int),aP x] []=En (.agg [Iv O.day,sl 5 jd O.ay,.ms 2 0 (O.ah.getD []).length,sl 8 bC O.units],Ep,[.cells [(Iv O.day,Ep),(sl 5 jd O.ay,Ep),(.ms 2 0 (O.ah.getD []).length,Ep),(sl 8 bC O.units,Ep)],.cells [(Iv O.day,Ep),(sl 5 jd O.ay,Ep),(.ms 2 0 (O.ah.getD []).length,Ep),(sl 8 bC O.units,Ep)],.cells (bQ qz ((O.ah.getD []).set n x))]):=by
  rw[qh (show pr.bn 187=En D7 from rfl) (by simp)];simp only[go_sem,seval,D7,ap,vq hi,st]<;>rfl
 have fz:kr [.cells [(Iv O.day,Ep),(sl 5 jd O.ay,Ep),(.ms 2 0 (O.ah.getD []).length,Ep),(sl 8 bC O.units,Ep)],.cells [(Iv O.day,Ep),(sl 5 jd O.ay,Ep),(.ms 2 0 (O.ah.getD []).length,Ep),(sl 8 bC O.units,Ep)],.cells (bQ qz ((O.ah.getD []).set n x))] (.ms 2 0 (O.ah.getD []).length)=En (sl 4 qz (En ((O.ah.getD []).set n x))):=by
  have:=vp cJ (l:=(O.ah.getD []).set n x) (by rw[G4];omega) (cs:=bQ qz ((O.ah.getD []).set n x)) z5;rw[G4]at this;exact this
 refine jo rfl this (v':=.agg [Iv O.day,sl 5 jd O.ay,sl 4 qz (En ((O.ah.getD []).set n x)),sl 8 bC O.units]) ?_ (by first|rfl|simp only[go_sem,seval]);rw[TJ];simp only[go_sem,seval,fz]<;>rfl
def f194 (O:av)(J:Int)(x:bp):Option av:=qc (Bm O.units J x) fun v=>En { O with units:=v }
theorem W8 {O:av}{J:Int}{x r}(h:f194 O J x=En r):ae pr (X pr) 194 [aR O,Iv J,aU x]=En (aR r,Ep):=by
 obtain⟨v,hv,h⟩:=qd h;cases h;obtain⟨n,rfl,hl,hi,rfl⟩:=W2 hv
 have ap:BJ 2 0 8 120 [kR O.day O.ay O.ah O.units,kZ,.hole] (En 7) (En (.list Ep 8 [])) (En (sl 8 bC O.units))=En ⟨.ms 2 0 (O.units.getD []).length,Ep,En 7,[kR O.day O.ay O.ah O.units,kZ,.cells (bQ bC (O.units.getD []))]⟩:=by apply W3 ek<;>first|exact hl|rfl|decide
 have st:jr (bQ bC (O.units.getD [])) (n*8) [.str x.name,.str x.product,Iv x.version,sl 2 bz x.uses,sl 3 je x.results,.str x.partner,.bool x.ax,Iv x.au]=En (bQ bC ((O.units.getD []).set n x)):=W7 (y:=x) ek hi
 have this:ai pr (X pr) 194 [aR O,Iv (n:Int),aU x] []=En (.agg [Iv O.day,sl 5 jd O.ay,sl 4 qz O.ah,.ms 2 0 (O.units.getD []).length],Ep,[.cells [(Iv O.day,Ep),(sl 5 jd O.ay,Ep),(sl 4 qz O.ah,Ep),(.ms 2 0 (O.units.getD []).length,Ep)],.cells [(Iv O.day,Ep),(sl 5 jd O.ay,Ep),(sl 4 qz O.ah,Ep),(.ms 2 0 (O.units.getD []).length,Ep)],.cells (bQ bC ((O.units.getD []).set n x))]):=by
  rw[qh (show pr.bn 194=En D8 from rfl) (by simp)];simp only[go_sem,seval,D8,ap,vq hi,st]<;>rfl
 have fz:kr [.cells [(Iv O.day,Ep),(sl 5 jd O.ay,Ep),(sl 4 qz O.ah,Ep),(.ms 2 0 (O.units.getD []).length,Ep)],.cells [(Iv O.day,Ep),(sl 5 jd O.ay,Ep),(sl 4 qz O.ah,Ep),(.ms 2 0 (O.units.getD []).length,Ep)],.cells (bQ bC ((O.units.getD []).set n x))] (.ms 2 0 (O.units.getD []).length)=En (sl 8 bC (En ((O.units.getD []).set n x))):=by
  have:=vp ek (l:=(O.units.getD []).set n x) (by rw[G4];omega) (cs:=bQ bC ((O.units.getD []).set n x)) z5;rw[G4]at this;exact this
 refine jo rfl this (v':=.agg [Iv O.day,sl 5 jd O.ay,sl 4 qz O.ah,sl 8 bC (En ((O.units.getD []).set n x))]) ?_ (by first|rfl|simp only[go_sem,seval]);rw[TJ];simp only[go_sem,seval,fz]<;>rfl
end Go.Z
namespace Go.Z
open Go Go.Abs Go.W
def Bn (O:ak bD)(J:bD)(V:(ak bD)×Bool×Int×Bool):Option (((ak bD)×Bool×Int×Bool)⊕(((ak bD)×Bool×Bool×Int))):=
 cond (decide (V.2.2.1<((O.getD []).length:Int)))
  (qc (qo (O.getD []) V.2.2.1) fun v24=>
  cond (decide (v24.k=J.k))
   (cond (decide (0<J.n))
    (cond V.2.2.2
     (qc (bB V.1 [J]) fun et=>
     En (.inl (et,E3,qf .i64 (V.2.2.1+1),E3)))
     (cond V.1.isNone
      (qc (bB V.1 [J]) fun ie=>
      En (.inl (ie,E3,qf .i64 (V.2.2.1+1),E3)))
      (E9)))
    (En (.inl (V.1,E3,qf .i64 (V.2.2.1+1),V.2.2.2))))
   (cond V.2.2.2
    (qc (bB V.1 [v24]) fun s9=>
    En (.inl (s9,V.2.1,qf .i64 (V.2.2.1+1),E3)))
    (cond V.1.isNone
     (qc (bB V.1 [v24]) fun D9=>
     En (.inl (D9,V.2.1,qf .i64 (V.2.2.1+1),E3)))
     (E9))))
  (En (.inr (V.1,V.2.2.2,V.2.1,V.2.2.1)))
def Qu (O:ak bD)(J:bD)(V:(ak bD)×Bool×Int×Bool):bj:=⟨[(0,sl 2 bz O,Ep),(3,.aq (aN J),Ep),(5,sl 2 bz V.1,V.2.2.2),(6,.bool V.2.1,Ep),(7,Iv V.2.2.1,Ep)],[]⟩
def Qv (O:ak bD)(J:bD)(d:((ak bD)×Bool×Bool×Int)):jc×bj:=(.exit 0,⟨[(0,sl 2 bz O,Ep),(3,.aq (aN J),Ep),(5,sl 2 bz d.1,d.2.1),(6,.bool d.2.2.1,Ep),(7,Iv d.2.2.2,Ep),(11,.bool Ep,Ep)],[]⟩)
theorem js3 (O:ak bD)(J:bD)(V:(ak bD)×Bool×Int×Bool)(r)(h:Bn O J V=En r):js pr Qw (Qu O J) (Qv O J) V r:=by
 unfold Bn at h
 repeat' first|(replace h:=qd h;obtain⟨d,g,h⟩:=h;with_reducible first|replace g:=Bc g|skip)|(replace h:=qe h;rcases h with⟨g,h⟩|⟨g,h⟩)
 all_goals (cases h<;>((first|refine qw ?_|refine jy ?_);simp only[go_sem,seval,Qw,Qu,jn,Qv, *]<;>rfl))
theorem jsz (O:ak bD)(J:bD){V d}(h:bu (Bn O J) V=En d):X pr (.loop Qw) (Qu O J V)=En (Qv O J d):=zq (js3 O J) h
def f185 (O:ak bD)(J:bD):Option ((ak bD)×Bool):=
 qc (bu (Bn O J) (E9,Ep,0,Ep)) fun d40=>
 cond d40.2.2.1
  (En (d40.1,d40.2.1))
  (cond (decide (0<J.n))
   (cond d40.2.1
    (qc (bB d40.1 [J]) fun zW=>
    En (zW,E3))
    (cond d40.1.isNone
     (qc (bB d40.1 [J]) fun Xa=>
     En (Xa,E3))
     (E9)))
   (En (d40.1,d40.2.1)))
theorem j7c {O J r}(h:f185 O J=En r):ae pr (X pr) 185 [sl 2 bz O,aN J]=En (sl 2 bz r.1,r.2):=by
 unfold f185 at h;refine yf Ea ?_
 repeat' first|(replace h:=qd h;obtain⟨d,g,h⟩:=h;with_reducible first|replace g:=Bc g|(replace g:=jsz O J g;dsimp only[Qu,Qv,zp]at g h)|skip)|(replace h:=qe h;rcases h with⟨g,h⟩|⟨g,h⟩)
 all_goals (cases h<;>(simp only[go_sem,seval,Ea, *];exact⟨_,rfl⟩))
def Bo (O:ak jh)(J:jh)(V:(ak jh)×Bool×Int×Bool):Option (((ak jh)×Bool×Int×Bool)⊕(((ak jh)×Bool×Bool×Int))):=
 cond (decide (V.2.2.1<((O.getD []).length:Int)))
  (qc (qo (O.getD []) V.2.2.1) fun v22=>
  cond (decide (v22.k=J.k))
   (cond V.2.2.2
    (qc (bB V.1 [J]) fun v26=>
    En (.inl (v26,E3,qf .i64 (V.2.2.1+1),E3)))
    (cond V.1.isNone
     (qc (bB V.1 [J]) fun et=>
     En (.inl (et,E3,qf .i64 (V.2.2.1+1),E3)))
     (E9)))
   (cond V.2.2.2
    (qc (bB V.1 [v22]) fun ie=>
    En (.inl (ie,V.2.1,qf .i64 (V.2.2.1+1),E3)))
    (cond V.1.isNone
     (qc (bB V.1 [v22]) fun s9=>
     En (.inl (s9,V.2.1,qf .i64 (V.2.2.1+1),E3)))
     (E9))))
  (En (.inr (V.1,V.2.2.2,V.2.1,V.2.2.1)))
def Qx (O:ak jh)(J:jh)(V:(ak jh)×Bool×Int×Bool):bj:=⟨[(0,sl 3 je O,Ep),(3,.aq (aT J),Ep),(5,sl 3 je V.1,V.2.2.2),(6,.bool V.2.1,Ep),(7,Iv V.2.2.1,Ep)],[]⟩
def Qy (O:ak jh)(J:jh)(d:((ak jh)×Bool×Bool×Int)):jc×bj:=(.exit 0,⟨[(0,sl 3 je O,Ep),(3,.aq (aT J),Ep),(5,sl 3 je d.1,d.2.1),(6,.bool d.2.2.1,Ep),(7,Iv d.2.2.2,Ep),(11,.bool Ep,Ep)],[]⟩)
theorem ju4 (O:ak jh)(J:jh)(V:(ak jh)×Bool×Int×Bool)(r)(h:Bo O J V=En r):js pr Qz (Qx O J) (Qy O J) V r:=by
 unfold Bo at h
 repeat' first|(replace h:=qd h;obtain⟨d,g,h⟩:=h;with_reducible first|replace g:=Fj g|skip)|(replace h:=qe h;rcases h with⟨g,h⟩|⟨g,h⟩)
 all_goals (cases h<;>((first|refine qw ?_|refine jy ?_);simp only[go_sem,seval,Qz,Qx,jn,Qy, *]<;>rfl))
theorem jv4 (O:ak jh)(J:jh){V d}(h:bu (Bo O J) V=En d):X pr (.loop Qz) (Qx O J V)=En (Qy O J d):=zq (ju4 O J) h
def f186 (O:ak jh)(J:jh):Option ((ak jh)×Bool):=
 qc (bu (Bo O J) (E9,Ep,0,Ep)) fun d37=>
 cond d37.2.2.1
  (En (d37.1,d37.2.1))
  (cond d37.2.1
   (qc (bB d37.1 [J]) fun Eb=>
   En (Eb,E3))
   (cond d37.1.isNone
    (qc (bB d37.1 [J]) fun Dv=>
    En (Dv,E3))
    (E9)))
theorem j68 {O J r}(h:f186 O J=En r):ae pr (X pr) 186 [sl 3 je O,aT J]=En (sl 3 je r.1,r.2):=by
 unfold f186 at h;refine yf Ec ?_
 repeat' first|(replace h:=qd h;obtain⟨d,g,h⟩:=h;with_reducible first|replace g:=Fj g|(replace g:=jv4 O J g;dsimp only[Qx,Qy,zp]at g h)|skip)|(replace h:=qe h;rcases h with⟨g,h⟩|⟨g,h⟩)
 all_goals (cases h<;>(simp only[go_sem,seval,Ec, *];exact⟨_,rfl⟩))
def Bp (O:ak bD)(J:aj)(a2:Int)(V:(ak bD)×Bool×Int×Bool):Option (((ak bD)×Bool×Int×Bool)⊕(((ak bD)×Bool×Bool×Int))):=
 cond (decide (V.2.2.1<((O.getD []).length:Int)))
  (qc (qo (O.getD []) V.2.2.1) fun v22=>
  cond (decide (v22.k=J))
   (cond V.2.2.2
    (qc (bB V.1 [⟨v22.k,qf .i64 (v22.n+a2)⟩]) fun v26=>
    En (.inl (v26,E3,qf .i64 (V.2.2.1+1),E3)))
    (cond V.1.isNone
     (qc (bB V.1 [⟨v22.k,qf .i64 (v22.n+a2)⟩]) fun et=>
     En (.inl (et,E3,qf .i64 (V.2.2.1+1),E3)))
     (E9)))
   (cond V.2.2.2
    (qc (bB V.1 [v22]) fun ie=>
    En (.inl (ie,V.2.1,qf .i64 (V.2.2.1+1),E3)))
    (cond V.1.isNone
     (qc (bB V.1 [v22]) fun s9=>
     En (.inl (s9,V.2.1,qf .i64 (V.2.2.1+1),E3)))
     (E9))))
  (En (.inr (V.1,V.2.2.2,V.2.1,V.2.2.1)))
def Ed (O:ak bD)(J:aj)(a2:Int)(V:(ak bD)×Bool×Int×Bool):bj:=⟨[(0,sl 2 bz O,Ep),(1,.str J,Ep),(2,Iv a2,Ep),(7,sl 2 bz V.1,V.2.2.2),(8,.bool V.2.1,Ep),(9,Iv V.2.2.1,Ep)],[]⟩
def KB (O:ak bD)(J:aj)(a2:Int)(d:((ak bD)×Bool×Bool×Int)):jc×bj:=(.exit 0,⟨[(0,sl 2 bz O,Ep),(1,.str J,Ep),(2,Iv a2,Ep),(7,sl 2 bz d.1,d.2.1),(8,.bool d.2.2.1,Ep),(9,Iv d.2.2.2,Ep),(14,.bool Ep,Ep)],[]⟩)
theorem jvr (O:ak bD)(J:aj)(a2:Int)(V:(ak bD)×Bool×Int×Bool)(r)(h:Bp O J a2 V=En r):js pr KC (Ed O J a2) (KB O J a2) V r:=by
 unfold Bp at h
 repeat' first|(replace h:=qd h;obtain⟨d,g,h⟩:=h;with_reducible first|replace g:=Bc g|skip)|(replace h:=qe h;rcases h with⟨g,h⟩|⟨g,h⟩)
 all_goals (cases h<;>(first|(refine qw ?_;simp only[go_sem,seval,KC,Ed,jn,KB, *]<;>rfl)|(refine q94 ?_ rfl (by first|simp only[go_sem,seval,Ed]|rfl) (by first|simp only[go_sem,seval,Ed]|rfl);simp only[go_sem,seval,KC,Ed,jn,KB, *];exact⟨_,rfl⟩)))
theorem jvo (O:ak bD)(J:aj)(a2:Int){V d}(h:bu (Bp O J a2) V=En d):X pr (.loop KC) (Ed O J a2 V)=En (KB O J a2 d):=zq (jvr O J a2) h
def f231 (O:ak bD)(J:aj)(a2:Int):Option ((ak bD)×Bool):=
 qc (bu (Bp O J a2) (E9,Ep,0,Ep)) fun d37=>
 cond d37.2.2.1
  (En (d37.1,d37.2.1))
  (cond d37.2.1
   (qc (bB d37.1 [⟨J,a2⟩]) fun Eb=>
   En (Eb,E3))
   (cond d37.1.isNone
    (qc (bB d37.1 [⟨J,a2⟩]) fun Dv=>
    En (Dv,E3))
    (E9)))
theorem j7n {O J a2 r}(h:f231 O J a2=En r):ae pr (X pr) 231 [sl 2 bz O,.str J,Iv a2]=En (sl 2 bz r.1,r.2):=by
 unfold f231 at h;refine yf Ee ?_
 repeat' first|(replace h:=qd h;obtain⟨d,g,h⟩:=h;with_reducible first|replace g:=Bc g|(replace g:=jvo O J a2 g;dsimp only[Ed,KB,zp]at g h)|skip)|(replace h:=qe h;rcases h with⟨g,h⟩|⟨g,h⟩)
 all_goals (cases h<;>(simp only[go_sem,seval,Ee, *];exact⟨_,rfl⟩))
def f110 (O:av)(J:GEv):Option (av×Int):=
 qc (qo (J.names.getD []) 0) fun v1=>
 cond (decide (J.kind=([108,111,116]:aj)))
  (qc (f182 O v1) fun v4=>
  cond (decide (0<=v4))
   (En (O,9))
   (qc (qo (J.values.getD []) 1) fun v7=>
   qc (f107 v7 1 10000) fun v9=>
   cond v9
    (En (O,3))
    (cond (decide (64<=((O.ay.getD []).length:Int)))
     (En (O,5))
     (qc (bB (En []) (O.ay.getD [])) fun eN=>
     qc (qo (J.names.getD []) 1) fun dS=>
     qc (bB eN [⟨v1,dS,v7,v7,Ep⟩]) fun fS=>
     En (⟨O.day,fS,O.ah,O.units⟩,0)))))
  (cond (decide (J.kind=([112,114,111,100,117,99,116]:aj)))
   (qc (f183 O v1) fun v20=>
   cond (decide (0<=v20))
    (En (O,9))
    (cond (decide (16<=((O.ah.getD []).length:Int)))
     (En (O,5))
     (qc (bB (En []) (O.ah.getD [])) fun v24=>
     qc (bB v24 [⟨v1,E9,E9,E9⟩]) fun v26=>
     En (⟨O.day,O.ay,v26,O.units⟩,0))))
   (qc (qo (J.names.getD []) 1) fun v28=>
   qc (f183 O v28) fun v30=>
   cond (decide (v30<0))
    (En (O,10))
    (qc (f184 O v1) fun xi=>
    cond (decide (0<=xi))
     (En (O,9))
     (qc (qo (O.ah.getD []) v30) fun rn=>
     cond (decide (((rn.bg.getD []).length:Int)=0))
      (En (O,32))
      (cond (decide (256<=((O.units.getD []).length:Int)))
       (En (O,5))
       (qc (bB (En []) (O.units.getD [])) fun v40=>
       qc (bB v40 [⟨v1,v28,((rn.bg.getD []).length:Int),E9,E9,[],Ep,0⟩]) fun Xb=>
       En (⟨O.day,O.ay,O.ah,Xb⟩,0)))))))
theorem j5i {O J r}(h:f110 O J=En r):ae pr (X pr) 110 [aR O,aE J]=En (.bq [aR r.1,Iv r.2],Ep):=by
 unfold f110 at h;refine zd Ef ?_
 repeat' first|(replace h:=qd h;obtain⟨d,g,h⟩:=h; (with_reducible first|replace g:=Kz g|replace g:=WJ g|replace g:=O7 g|replace g:=WI g|replace g:=T1 g|replace g:=q6i g|replace g:=M7 g|skip);try dsimp only[zp,nu,G7,zg,jf,jd,qz,bC,ju,vev,bz,je,yr,aE,aR,aU,aL,aP,aD]at g)|(replace h:=qe h;rcases h with⟨g,h⟩|⟨g,h⟩)
 all_goals (cases h<;>(simp only[go_sem,seval,Ef,jn,nv, *];exact⟨_,rfl⟩))
end Go.Z
namespace Go.Z
open Go Go.Abs Go.W
def Br (J:aj)(dQ:Int)(dF:aj)(xj:aj)(bd:Int)(aY:ak ji)(aW:ak bm)(aI:ak bp):Option (ak bm):=
 qc (f58 (⟨bd,aY,aW,aI⟩) J) fun v1=>
 qc (Ui aW v1 dQ dF xj) fun v3=>
 En v3
theorem jz1 {J dQ dF xj bd aY aW aI x1 x2 x3 r}(h:Br J dQ dF xj bd aY aW aI=En r):ai pr (X pr) 137 [.ptr 0 0,.str J,.fn (.func 138) [] [.aq (Iv dQ),.aq (.fn (.func 135) [] [.aq (.str dF)]),.aq (.str xj)]] [kR bd aY aW aI,x1,x2,x3]=En (.bq [],Ep,[kR bd aY r aI,x1,x2,x3]):=by
 unfold Br at h;rw[qh (show pr.bn 137=En tJ from rfl) (by simp)]
 repeat' first|(replace h:=qd h;obtain⟨d,g,h⟩:=h;with_reducible first|replace g:=rE g|replace g:=jlh g|skip)|(replace h:=qe h;rcases h with⟨g,h⟩|⟨g,h⟩)
 all_goals (cases h<;>(simp only[go_sem,seval,tJ, *]<;>rfl))
def Fz (J:aj)(dQ:jh)(dF:jh)(bd:Int)(aY:ak ji)(aW:ak bm)(aI:ak bp):Option (ak bm):=
 qc (f58 (⟨bd,aY,aW,aI⟩) J) fun v1=>
 qc (Uj aW v1 dQ dF) fun v3=>
 En v3
theorem jxr {J dQ dF bd aY aW aI x1 x2 x3 r}(h:Fz J dQ dF bd aY aW aI=En r):ai pr (X pr) 137 [.ptr 0 0,.str J,.fn (.func 144) [] [.aq (aT dQ),.aq (.fn (.func 142) [] [.aq (aT dF)])]] [kR bd aY aW aI,x1,x2,x3]=En (.bq [],Ep,[kR bd aY r aI,x1,x2,x3]):=by
 unfold Fz at h;obtain⟨v1,I,h⟩:=qd h;have iY:ae pr (X pr) 58 [aG bd aY aW aI,.str J]=En (Iv v1,Ep):=rE I;obtain⟨v3,h4,h⟩:=qd h;have wZ:ae pr (X pr) 146 [sl 4 qz aW,Iv v1,.fn (.func 203) [] [.aq (.fn (.func 144) [] [.aq (aT dQ),.aq (.fn (.func 142) [] [.aq (aT dF)])])]]=En (sl 4 qz v3,Ep):=jk2 h4;have Q:v3=r:=En.inj h;subst Q;rw[qh (show pr.bn 137=En tJ from rfl) (by simp)];simp only[go_sem,seval,tJ,iY,wZ]<;>rfl
def f72 (J:GEv)(bd:Int)(aY:ak ji)(aW:ak bm)(aI:ak bp):Option (Int×(ak ji)×Bool):=
 qc (qo (J.names.getD []) 0) fun v1=>
 qc (f132 (⟨bd,aY,aW,aI⟩) v1) fun v3=>
 qc (f18 (decide (0<=v3)) 9) fun v5=>
 qc (qo (J.values.getD []) 1) fun v7=>
 qc (f90 v7 1 10000) fun v9=>
 qc (f18 (decide (64<=((aY.getD []).length:Int))) 5) fun v11=>
 qc (f17 (En [v5,v9,v11])) fun eN=>
 cond (decide (eN=0))
  (qc (qo (J.names.getD []) 1) fun dZ=>
  qc (f133 aY (⟨v1,dZ,v7,v7,Ep⟩)) fun eU=>
  En (0,eU,E3))
  (En (eN,aY,Ep))
theorem W72 {J bd aY aW aI x1 x2 x3 r}(h:f72 J bd aY aW aI=En r):ai pr (X pr) 72 [.ptr 0 0,aE J] [kR bd aY aW aI,x1,x2,x3]=En (Iv r.1,Ep,[kS bd r.2.1 r.2.2 aW Ep aI Ep,x1,x2,x3]):=by
 unfold f72 at h;rw[qh (show pr.bn 72=En Xc from rfl) (by simp)]
 repeat' first|(replace h:=qd h;obtain⟨d,g,h⟩:=h; (with_reducible first|replace g:=Cm g|replace g:=dp g|replace g:=OD g|replace g:=fC g|replace g:=j5t g|skip);try dsimp only[zp,nu,G7,zg,jf,jd,qz,bC,ju,vev,bz,je,yr,aE,aR,aU,aL,aP,aD]at g)|(replace h:=qe h;rcases h with⟨g,h⟩|⟨g,h⟩)
 all_goals (cases h<;>(simp only[go_sem,seval,Xc,jn, *]<;>rfl))
def f73 (J:GEv)(bd:Int)(aY:ak ji)(aW:ak bm)(aI:ak bp):Option (Int×(ak bm)×Bool):=
 qc (qo (J.names.getD []) 0) fun v1=>
 qc (f58 (⟨bd,aY,aW,aI⟩) v1) fun v3=>
 qc (f18 (decide (0<=v3)) 9) fun v5=>
 qc (f18 (decide (16<=((aW.getD []).length:Int))) 5) fun v7=>
 qc (f17 (En [v5,v7])) fun v9=>
 cond (decide (v9=0))
  (qc (f134 aW (⟨v1,E9,E9,E9⟩)) fun v12=>
  En (0,v12,E3))
  (En (v9,aW,Ep))
theorem W73 {J bd aY aW aI x1 x2 x3 r}(h:f73 J bd aY aW aI=En r):ai pr (X pr) 73 [.ptr 0 0,aE J] [kR bd aY aW aI,x1,x2,x3]=En (Iv r.1,Ep,[kS bd aY Ep r.2.1 r.2.2 aI Ep,x1,x2,x3]):=by
 unfold f73 at h;rw[qh (show pr.bn 73=En Xd from rfl) (by simp)]
 repeat' first|(replace h:=qd h;obtain⟨d,g,h⟩:=h; (with_reducible first|replace g:=rE g|replace g:=dp g|replace g:=fC g|replace g:=j96 g|skip);try dsimp only[zp,nu,G7,zg,jf,jd,qz,bC,ju,vev,bz,je,yr,aE,aR,aU,aL,aP,aD]at g)|(replace h:=qe h;rcases h with⟨g,h⟩|⟨g,h⟩)
 all_goals (cases h<;>(simp only[go_sem,seval,Xd,jn, *]<;>rfl))
def f74 (J:GEv)(bd:Int)(aY:ak ji)(aW:ak bm)(aI:ak bp):Option (Int×(ak bm)):=
 qc (qo (J.names.getD []) 1) fun v1=>
 qc (qo (J.values.getD []) 1) fun v3=>
 qc (qo (J.names.getD []) 0) fun v5=>
 qc (f58 (⟨bd,aY,aW,aI⟩) v5) fun v7=>
 qc (qo (aW.getD []) v7) fun v9=>
 qc (f90 v3 0 10000) fun v11=>
 cond (decide (0<v3))
  (qc (Jf v9.dn v1) fun dm=>
  cond dm
   (qc (f18 Ep 5) fun fS=>
   qc (f17 (En [v11,fS])) fun kG=>
   cond (decide (kG=0))
    (qc (Br v5 v3 v1 v1 bd aY aW aI) fun v22=>
    En (0,v22))
    (En (kG,aW)))
   (qc (f18 (decide (16<=((v9.dn.getD []).length:Int))) 5) fun v24=>
   qc (f17 (En [v11,v24])) fun v26=>
   cond (decide (v26=0))
    (qc (Br v5 v3 v1 v1 bd aY aW aI) fun et=>
    En (0,et))
    (En (v26,aW))))
  (qc (f18 Ep 5) fun v31=>
  qc (f17 (En [v11,v31])) fun xi=>
  cond (decide (xi=0))
   (qc (Br v5 v3 v1 v1 bd aY aW aI) fun rn=>
   En (0,rn))
   (En (xi,aW)))
theorem W74 {J bd aY aW aI x1 x2 x3 r}(h:f74 J bd aY aW aI=En r):ai pr (X pr) 74 [.ptr 0 0,aE J] [kR bd aY aW aI,x1,x2,x3]=En (Iv r.1,Ep,[kR bd aY r.2 aI,x1,x2,x3]):=by
 unfold f74 at h;rw[qh (show pr.bn 74=En Xe from rfl) (by simp)]
 repeat' first|(replace h:=qd h;obtain⟨d,g,h⟩:=h; (with_reducible first|replace g:=rE g|replace g:=OD g|replace g:=jyx g|replace g:=dp g|replace g:=fC g|replace g:=jz1 (x1:=x1) (x2:=x2) (x3:=x3) g|skip);try dsimp only[zp,nu,G7,zg,jf,jd,qz,bC,ju,vev,bz,je,yr,aE,aR,aU,aL,aP,aD]at g)|(replace h:=qe h;rcases h with⟨g,h⟩|⟨g,h⟩)
 all_goals (cases h<;>(simp only[go_sem,seval,Xe,jn, *]<;>rfl))
def f75 (J:GEv)(bd:Int)(aY:ak ji)(aW:ak bm)(aI:ak bp):Option (Int×(ak bm)):=
 qc (qo (J.names.getD []) 1) fun v1=>
 qc (qo (J.values.getD []) 1) fun v3=>
 qc (qo (J.values.getD []) 2) fun v5=>
 qc (qo (J.names.getD []) 0) fun v7=>
 qc (f58 (⟨bd,aY,aW,aI⟩) v7) fun v9=>
 qc (qo (aW.getD []) v9) fun v11=>
 qc (f18 (decide (v5<v3)) 11) fun eN=>
 qc (Jj v11.dt (⟨v1,v3,v5⟩)) fun dS=>
 cond dS
  (qc (f18 Ep 5) fun eU=>
  qc (f17 (En [eN,eU])) fun v20=>
  cond (decide (v20=0))
   (qc (Fz v7 (⟨v1,v3,v5⟩) (⟨v1,v3,v5⟩) bd aY aW aI) fun v23=>
   En (0,v23))
   (En (v20,aW)))
  (qc (f18 (decide (16<=((v11.dt.getD []).length:Int))) 5) fun v25=>
  qc (f17 (En [eN,v25])) fun pR=>
  cond (decide (pR=0))
   (qc (Fz v7 (⟨v1,v3,v5⟩) (⟨v1,v3,v5⟩) bd aY aW aI) fun v30=>
   En (0,v30))
   (En (pR,aW)))
theorem W75 {J bd aY aW aI x1 x2 x3 r}(h:f75 J bd aY aW aI=En r):ai pr (X pr) 75 [.ptr 0 0,aE J] [kR bd aY aW aI,x1,x2,x3]=En (Iv r.1,Ep,[kR bd aY r.2 aI,x1,x2,x3]):=by
 unfold f75 at h;rw[qh (show pr.bn 75=En Xf from rfl) (by simp)]
 repeat' first|(replace h:=qd h;obtain⟨d,g,h⟩:=h; (with_reducible first|replace g:=rE g|replace g:=dp g|replace g:=jx3 g|replace g:=fC g|replace g:=jxr (x1:=x1) (x2:=x2) (x3:=x3) g|skip);try dsimp only[zp,nu,G7,zg,jf,jd,qz,bC,ju,vev,bz,je,yr,aE,aR,aU,aL,aP,aD]at g)|(replace h:=qe h;rcases h with⟨g,h⟩|⟨g,h⟩)
 all_goals (cases h<;>(simp only[go_sem,seval,Xf,jn, *]<;>rfl))
def f76 (J:GEv)(bd:Int)(aY:ak ji)(aW:ak bm)(aI:ak bp):Option (Int×(ak bm)):=
 qc (qo (J.names.getD []) 0) fun v1=>
 qc (f58 (⟨bd,aY,aW,aI⟩) v1) fun v3=>
 qc (qo (aW.getD []) v3) fun v5=>
 qc (f18 (decide (((v5.dn.getD []).length:Int)=0)) 12) fun v7=>
 qc (f18 (decide (100<=((v5.bg.getD []).length:Int))) 5) fun v9=>
 qc (f17 (En [v7,v9])) fun v11=>
 cond (decide (v11=0))
  (qc (Nk aW v3) fun dm=>
  En (0,dm))
  (En (v11,aW))
theorem W76 {J bd aY aW aI x1 x2 x3 r}(h:f76 J bd aY aW aI=En r):ai pr (X pr) 76 [.ptr 0 0,aE J] [kR bd aY aW aI,x1,x2,x3]=En (Iv r.1,Ep,[kR bd aY r.2 aI,x1,x2,x3]):=by
 unfold f76 at h;rw[qh (show pr.bn 76=En Xg from rfl) (by simp)]
 repeat' first|(replace h:=qd h;obtain⟨d,g,h⟩:=h; (with_reducible first|replace g:=rE g|replace g:=dp g|replace g:=fC g|replace g:=jk1 g|skip);try dsimp only[zp,nu,G7,zg,jf,jd,qz,bC,ju,vev,bz,je,yr,aE,aR,aU,aL,aP,aD]at g)|(replace h:=qe h;rcases h with⟨g,h⟩|⟨g,h⟩)
 all_goals (cases h<;>(simp only[go_sem,seval,Xg,jn, *]<;>rfl))
def f77 (J:GEv)(bd:Int)(aY:ak ji)(aW:ak bm)(aI:ak bp):Option (Int×(ak bp)×Bool):=
 qc (qo (J.names.getD []) 1) fun v1=>
 qc (f58 (⟨bd,aY,aW,aI⟩) v1) fun v3=>
 qc (qo (aW.getD []) v3) fun v5=>
 qc (f59 v5) fun v7=>
 qc (qo (J.names.getD []) 0) fun v9=>
 qc (f49 (⟨bd,aY,aW,aI⟩) v9) fun v11=>
 qc (f18 (decide (0<=v11)) 9) fun eN=>
 qc (f18 (decide (v7=0)) 32) fun dS=>
 qc (f18 (decide (256<=((aI.getD []).length:Int))) 5) fun fS=>
 qc (f17 (En [eN,dS,fS])) fun kG=>
 cond (decide (kG=0))
  (qc (f150 aI (⟨v9,v1,v7,E9,E9,[],Ep,0⟩)) fun v22=>
  En (0,v22,E3))
  (En (kG,aI,Ep))
theorem W77 {J bd aY aW aI x1 x2 x3 r}(h:f77 J bd aY aW aI=En r):ai pr (X pr) 77 [.ptr 0 0,aE J] [kR bd aY aW aI,x1,x2,x3]=En (Iv r.1,Ep,[kS bd aY Ep aW Ep r.2.1 r.2.2,x1,x2,x3]):=by
 unfold f77 at h;rw[qh (show pr.bn 77=En Xh from rfl) (by simp)]
 repeat' first|(replace h:=qd h;obtain⟨d,g,h⟩:=h; (with_reducible first|replace g:=rE g|replace g:=VQ g|replace g:=tn g|replace g:=dp g|replace g:=fC g|replace g:=j58 g|skip);try dsimp only[zp,nu,G7,zg,jf,jd,qz,bC,ju,vev,bz,je,yr,aE,aR,aU,aL,aP,aD]at g)|(replace h:=qe h;rcases h with⟨g,h⟩|⟨g,h⟩)
 all_goals (cases h<;>(simp only[go_sem,seval,Xh,jn, *]<;>rfl))
def f79 (J:GEv)(bd:Int)(aY:ak ji)(aW:ak bm)(aI:ak bp):Option (Int×(ak bp)):=
 qc (qo (J.names.getD []) 0) fun v1=>
 qc (f49 (⟨bd,aY,aW,aI⟩) v1) fun v3=>
 qc (qo (aI.getD []) v3) fun v5=>
 qc (f123 (⟨bd,aY,aW,aI⟩) v5) fun v7=>
 qc (Jk v7.aO J) fun v9=>
 qc (f18 v5.ax 21) fun v11=>
 qc (f18 (!v9) 7) fun eN=>
 qc (f18 (decide (64<=((v5.results.getD []).length:Int))) 5) fun dS=>
 qc (f17 (En [v11,eN,dS])) fun fS=>
 cond (decide (fS=0))
  (qc (Uq aI v3 J) fun v20=>
  En (0,v20))
  (En (fS,aI))
theorem W79 {J bd aY aW aI x1 x2 x3 r}(h:f79 J bd aY aW aI=En r):ai pr (X pr) 79 [.ptr 0 0,aE J] [kR bd aY aW aI,x1,x2,x3]=En (Iv r.1,Ep,[kR bd aY aW r.2,x1,x2,x3]):=by
 unfold f79 at h;rw[qh (show pr.bn 79=En Xi from rfl) (by simp)]
 repeat' first|(replace h:=qd h;obtain⟨d,g,h⟩:=h; (with_reducible first|replace g:=tn g|replace g:=PE g|replace g:=jz9 g|replace g:=dp g|replace g:=fC g|replace g:=jil g|skip);try dsimp only[zp,nu,G7,zg,jf,jd,qz,bC,ju,vev,bz,je,yr,aE,aR,aU,aL,aP,aD]at g)|(replace h:=qe h;rcases h with⟨g,h⟩|⟨g,h⟩)
 all_goals (cases h<;>(simp only[go_sem,seval,Xi,jn, *]<;>rfl))
def f80 (J:GEv)(bd:Int)(aY:ak ji)(aW:ak bm)(aI:ak bp):Option (Int×(ak bp)):=
 qc (qo (J.names.getD []) 0) fun v1=>
 qc (f49 (⟨bd,aY,aW,aI⟩) v1) fun v3=>
 qc (qo (aI.getD []) v3) fun v5=>
 qc (f162 (⟨bd,aY,aW,aI⟩) v5) fun v7=>
 qc (f18 v5.ax 21) fun v9=>
 qc (f18 (decide (v5.version=v7)) 32) fun v11=>
 qc (f17 (En [v9,v11])) fun eN=>
 cond (decide (eN=0))
  (qc (Un aI v3 v7) fun dZ=>
  En (0,dZ))
  (En (eN,aI))
theorem W80 {J bd aY aW aI x1 x2 x3 r}(h:f80 J bd aY aW aI=En r):ai pr (X pr) 80 [.ptr 0 0,aE J] [kR bd aY aW aI,x1,x2,x3]=En (Iv r.1,Ep,[kR bd aY aW r.2,x1,x2,x3]):=by
 unfold f80 at h;rw[qh (show pr.bn 80=En Xj from rfl) (by simp)]
 repeat' first|(replace h:=qd h;obtain⟨d,g,h⟩:=h; (with_reducible first|replace g:=tn g|replace g:=jsd g|replace g:=dp g|replace g:=fC g|replace g:=jju g|skip);try dsimp only[zp,nu,G7,zg,jf,jd,qz,bC,ju,vev,bz,je,yr,aE,aR,aU,aL,aP,aD]at g)|(replace h:=qe h;rcases h with⟨g,h⟩|⟨g,h⟩)
 all_goals (cases h<;>(simp only[go_sem,seval,Xj,jn, *]<;>rfl))
def f81 (J:GEv)(bd:Int)(aY:ak ji)(aW:ak bm)(aI:ak bp):Option (Int×(ak bp)):=
 qc (qo (J.names.getD []) 0) fun v1=>
 qc (f49 (⟨bd,aY,aW,aI⟩) v1) fun v3=>
 qc (qo (J.names.getD []) 1) fun v5=>
 qc (f49 (⟨bd,aY,aW,aI⟩) v5) fun v7=>
 qc (qo (aI.getD []) v3) fun v9=>
 qc (qo (aI.getD []) v7) fun v11=>
 qc (f18 (decide (v3=v7)) 9) fun eN=>
 cond (decide (v9.product=v11.product))
  (qc (f18 (!decide (v9.version=v11.version)) 30) fun dZ=>
  cond v9.ax
   (qc (f18 E3 21) fun kG=>
   cond (decide (v9.partner=[]))
    (qc (f18 (!decide (v11.partner=[])) 35) fun v22=>
    qc (f17 (En [eN,dZ,kG,v22])) fun v24=>
    cond (decide (v24=0))
     (qc (uJ aI v3 v11) fun pR=>
     qc (uL pR v7 (⟨v9.name,v9.product,v9.version,v9.uses,v9.results,v9.partner,E3,v9.au⟩)) fun et=>
     En (0,et))
     (En (v24,aI)))
    (qc (f18 E3 35) fun v31=>
    qc (f17 (En [eN,dZ,kG,v31])) fun xi=>
    cond (decide (xi=0))
     (qc (uJ aI v3 v11) fun rn=>
     qc (uL rn v7 (⟨v9.name,v9.product,v9.version,v9.uses,v9.results,v9.partner,E3,v9.au⟩)) fun D9=>
     En (0,D9))
     (En (xi,aI))))
   (qc (f18 v11.ax 21) fun v40=>
   cond (decide (v9.partner=[]))
    (qc (f18 (!decide (v11.partner=[])) 35) fun KD=>
    qc (f17 (En [eN,dZ,v40,KD])) fun zW=>
    cond (decide (zW=0))
     (qc (uJ aI v3 v11) fun Xa=>
     qc (uL Xa v7 (⟨v9.name,v9.product,v9.version,v9.uses,v9.results,v9.partner,Ep,v9.au⟩)) fun v50=>
     En (0,v50))
     (En (zW,aI)))
    (qc (f18 E3 35) fun v52=>
    qc (f17 (En [eN,dZ,v40,v52])) fun QA=>
    cond (decide (QA=0))
     (qc (uJ aI v3 v11) fun QB=>
     qc (uL QB v7 (⟨v9.name,v9.product,v9.version,v9.uses,v9.results,v9.partner,Ep,v9.au⟩)) fun v59=>
     En (0,v59))
     (En (QA,aI)))))
  (qc (f18 E3 30) fun xh=>
  cond v9.ax
   (qc (f18 E3 21) fun v64=>
   cond (decide (v9.partner=[]))
    (qc (f18 (!decide (v11.partner=[])) 35) fun v67=>
    qc (f17 (En [eN,xh,v64,v67])) fun v69=>
    cond (decide (v69=0))
     (qc (uJ aI v3 v11) fun v72=>
     qc (uL v72 v7 (⟨v9.name,v9.product,v9.version,v9.uses,v9.results,v9.partner,E3,v9.au⟩)) fun v74=>
     En (0,v74))
     (En (v69,aI)))
    (qc (f18 E3 35) fun v76=>
    qc (f17 (En [eN,xh,v64,v76])) fun v78=>
    cond (decide (v78=0))
     (qc (uJ aI v3 v11) fun v81=>
     qc (uL v81 v7 (⟨v9.name,v9.product,v9.version,v9.uses,v9.results,v9.partner,E3,v9.au⟩)) fun Xk=>
     En (0,Xk))
     (En (v78,aI))))
   (qc (f18 v11.ax 21) fun v85=>
   cond (decide (v9.partner=[]))
    (qc (f18 (!decide (v11.partner=[])) 35) fun Xl=>
    qc (f17 (En [eN,xh,v85,Xl])) fun QC=>
    cond (decide (QC=0))
     (qc (uJ aI v3 v11) fun v93=>
     qc (uL v93 v7 (⟨v9.name,v9.product,v9.version,v9.uses,v9.results,v9.partner,Ep,v9.au⟩)) fun Xm=>
     En (0,Xm))
     (En (QC,aI)))
    (qc (f18 E3 35) fun Xn=>
    qc (f17 (En [eN,xh,v85,Xn])) fun QD=>
    cond (decide (QD=0))
     (qc (uJ aI v3 v11) fun Xo=>
     qc (uL Xo v7 (⟨v9.name,v9.product,v9.version,v9.uses,v9.results,v9.partner,Ep,v9.au⟩)) fun Xp=>
     En (0,Xp))
     (En (QD,aI)))))
theorem W81 {J bd aY aW aI x1 x2 x3 r}(h:f81 J bd aY aW aI=En r):ai pr (X pr) 81 [.ptr 0 0,aE J] [kR bd aY aW aI,x1,x2,x3]=En (Iv r.1,Ep,[kR bd aY aW r.2,x1,x2,x3]):=by
 unfold f81 at h;rw[qh (show pr.bn 81=En Xq from rfl) (by simp)]
 repeat' first|(replace h:=qd h;obtain⟨d,g,h⟩:=h; (with_reducible first|replace g:=tn g|replace g:=dp g|replace g:=fC g|replace g:=jj3 g|replace g:=jjg g|skip);try dsimp only[zp,nu,G7,zg,jf,jd,qz,bC,ju,vev,bz,je,yr,aE,aR,aU,aL,aP,aD]at g)|(replace h:=qe h;rcases h with⟨g,h⟩|⟨g,h⟩)
 all_goals (cases h<;>(simp only[go_sem,seval,Xq,jn, *]<;>rfl))
def f82 (J:GEv)(bd:Int)(aY:ak ji)(aW:ak bm)(aI:ak bp):Option (Int×(ak ji)):=
 qc (qo (J.names.getD []) 0) fun v1=>
 qc (f132 (⟨bd,aY,aW,aI⟩) v1) fun v3=>
 qc (qo (aY.getD []) v3) fun v5=>
 cond v5.held
  (En (34,aY))
  (qc (Uk aY v3) fun v8=>
  En (0,v8))
theorem W82 {J bd aY aW aI x1 x2 x3 r}(h:f82 J bd aY aW aI=En r):ai pr (X pr) 82 [.ptr 0 0,aE J] [kR bd aY aW aI,x1,x2,x3]=En (Iv r.1,Ep,[kR bd r.2 aW aI,x1,x2,x3]):=by
 unfold f82 at h;rw[qh (show pr.bn 82=En Xr from rfl) (by simp)]
 repeat' first|(replace h:=qd h;obtain⟨d,g,h⟩:=h;with_reducible first|replace g:=Cm g|replace g:=jh8 g|skip)|(replace h:=qe h;rcases h with⟨g,h⟩|⟨g,h⟩)
 all_goals (cases h<;>(simp only[go_sem,seval,Xr,jn, *]<;>rfl))
def f83 (J:GEv)(bd:Int)(aY:ak ji)(aW:ak bm)(aI:ak bp):Option (Int×(ak ji)):=
 qc (qo (J.names.getD []) 0) fun v1=>
 qc (f132 (⟨bd,aY,aW,aI⟩) v1) fun v3=>
 qc (qo (aY.getD []) v3) fun v5=>
 cond v5.held
  (qc (Ul aY v3) fun v8=>
  En (0,v8))
  (En (20,aY))
theorem W83 {J bd aY aW aI x1 x2 x3 r}(h:f83 J bd aY aW aI=En r):ai pr (X pr) 83 [.ptr 0 0,aE J] [kR bd aY aW aI,x1,x2,x3]=En (Iv r.1,Ep,[kR bd r.2 aW aI,x1,x2,x3]):=by
 unfold f83 at h;rw[qh (show pr.bn 83=En Xt from rfl) (by simp)]
 repeat' first|(replace h:=qd h;obtain⟨d,g,h⟩:=h;with_reducible first|replace g:=Cm g|replace g:=jmf g|skip)|(replace h:=qe h;rcases h with⟨g,h⟩|⟨g,h⟩)
 all_goals (cases h<;>(simp only[go_sem,seval,Xt,jn, *]<;>rfl))
def f85 (J:GEv)(bd:Int)(aY:ak ji)(aW:ak bm)(aI:ak bp):Option (Int×(ak bp)):=
 qc (qo (J.names.getD []) 0) fun v1=>
 qc (f49 (⟨bd,aY,aW,aI⟩) v1) fun v3=>
 qc (qo (aI.getD []) v3) fun v5=>
 cond v5.ax
  (qc (Up aI v3) fun v8=>
  En (0,v8))
  (En (20,aI))
theorem W85 {J bd aY aW aI x1 x2 x3 r}(h:f85 J bd aY aW aI=En r):ai pr (X pr) 85 [.ptr 0 0,aE J] [kR bd aY aW aI,x1,x2,x3]=En (Iv r.1,Ep,[kR bd aY aW r.2,x1,x2,x3]):=by
 unfold f85 at h;rw[qh (show pr.bn 85=En Xu from rfl) (by simp)]
 repeat' first|(replace h:=qd h;obtain⟨d,g,h⟩:=h;with_reducible first|replace g:=tn g|replace g:=jjx g|skip)|(replace h:=qe h;rcases h with⟨g,h⟩|⟨g,h⟩)
 all_goals (cases h<;>(simp only[go_sem,seval,Xu,jn, *]<;>rfl))
end Go.Z
namespace Go.Z
open Go Go.Abs Go.W
def f78 (J:GEv)(bd:Int)(aY:ak ji)(aW:ak bm)(aI:ak bp):Option (Int×(ak ji)×(ak bp)):=
 qc (qo (J.names.getD []) 0) fun v1=>
 qc (f49 (⟨bd,aY,aW,aI⟩) v1) fun v3=>
 qc (qo (J.names.getD []) 1) fun v5=>
 qc (f132 (⟨bd,aY,aW,aI⟩) v5) fun v7=>
 qc (qo (J.values.getD []) 1) fun v9=>
 qc (qo (aI.getD []) v3) fun v11=>
 qc (qo (aY.getD []) v7) fun eN=>
 qc (f123 (⟨bd,aY,aW,aI⟩) v11) fun dS=>
 qc (Jh dS.aX eN) fun fS=>
 qc (f18 v11.ax 21) fun kG=>
 qc (f18 (decide (v9=0)) 3) fun v21=>
 qc (f18 eN.held 34) fun v23=>
 qc (f18 (!fS) 7) fun v25=>
 qc (f18 (decide (eN.left<v9)) 4) fun pR=>
 qc (f17 (En [kG,v21,v23,v25,pR])) fun et=>
 cond (decide (et=0))
  (qc (Ur aY v7 v9) fun ie=>
  qc (f155 v11.uses eN) fun QE=>
  cond (decide (0<=QE))
   (qc (qo (v11.uses.getD []) QE) fun v37=>
   qc (gq aI v3 (FA ⟨eN.name,qf .i64 (v9+v37.n)⟩ eN)) fun us=>En (et,ie,us))
   (qc (gq aI v3 (FA ⟨eN.name,v9⟩ eN)) fun us=>En (et,ie,us)))
  (En (et,aY,aI))
theorem W78 {J bd aY aW aI x1 x2 x3 r}(h:f78 J bd aY aW aI=En r):
  (r.1≠0/\r.2=(aY,aI)/\ai pr (X pr) 78 [.ptr 0 0,aE J] [kR bd aY aW aI,x1,x2,x3]=En (Iv r.1,Ep,[kR bd aY aW aI,x1,x2,x3])) \/
  (r.1=0/\∃(n:Nat) (b:bG) (cs:List (AVal×Bool)),ai pr (X pr) 78 [.ptr 0 0,aE J] [kR bd aY aW aI,x1,x2,x3]=En (Iv 0,Ep,[.cells [(Iv bd,Ep),(sl 5 jd r.2.1,Ep),(sl 4 qz aW,Ep),(.ms 5 0 n,Ep)],x1,x2,x3,b,.cells cs])/\cs.map (·.1)=zh bC (r.2.2.getD [])/\n=(r.2.2.getD []).length/\0<n):=by
 unfold f78 at h;obtain⟨v1,I,h⟩:=qd h;obtain⟨v3,h4,h⟩:=qd h;have wZ:ae pr (X pr) 49 [aG bd aY aW aI,.str v1]=En (Iv v3,Ep):=tn h4;obtain⟨v5,h6,h⟩:=qd h;obtain⟨v7,h8,h⟩:=qd h;have yZ:ae pr (X pr) 132 [aG bd aY aW aI,.str v5]=En (Iv v7,Ep):=Cm h8;obtain⟨v9,ep,h⟩:=qd h;obtain⟨v11,jL,h⟩:=qd h;obtain⟨eN,jM,h⟩:=qd h;obtain⟨dS,jK,h⟩:=qd h;have pM:ae pr (X pr) 123 [aG bd aY aW aI,aU v11]=En (aD dS,Ep):=PE jK;obtain⟨fS,JG,h⟩:=qd h;have pN:ae pr (X pr) 136 [sl 2 bz dS.aX,.fn (.func 151) [] [.aq (aL eN)]]=En (.bool fS,Ep):=j06 JG;obtain⟨kG,sE,h⟩:=qd h;have pP:ae pr (X pr) 18 [.bool v11.ax,Iv 21]=En (Iv kG,Ep):=dp sE;obtain⟨v21,pB,h⟩:=qd h;have pQ:ae pr (X pr) 18 [.bool (decide (v9=0)),Iv 3]=En (Iv v21,Ep):=dp pB;obtain⟨v23,vR,h⟩:=qd h;have Eg:ae pr (X pr) 18 [.bool eN.held,Iv 34]=En (Iv v23,Ep):=dp vR;obtain⟨v25,rj,h⟩:=qd h;have Eh:ae pr (X pr) 18 [.bool (!fS),Iv 7]=En (Iv v25,Ep):=dp rj;obtain⟨pR,vf,h⟩:=qd h;have s6:ae pr (X pr) 18 [.bool (decide (eN.left<v9)),Iv 4]=En (Iv pR,Ep):=dp vf;obtain⟨et,yT,h⟩:=qd h;have jO:ae pr (X pr) 17 [.list Ep 1 [Iv kG,Iv v21,Iv v23,Iv v25,Iv pR]]=En (Iv et,Ep):=fC yT;rcases qe h with⟨mM,h⟩|⟨mM,h⟩
 .obtain⟨ie,F0,h⟩:=qd h;have pS:ae pr (X pr) 152 [sl 5 jd aY,Iv v7,.fn (.func 153) [] [.aq (Iv v9)]]=En (sl 5 jd ie,Ep):=jk8 F0;obtain⟨QE,pT,h⟩:=qd h;have KE:ae pr (X pr) 155 [sl 2 bz v11.uses,.fn (.func 154) [] [.aq (aL eN)]]=En (Iv QE,Ep):=jr9 pT;rcases qe h with⟨Xv,h⟩|⟨Xv,h⟩
  .obtain⟨v37,zF,h⟩:=qd h;obtain⟨us,hu,h⟩:=qd h;cases h;obtain⟨n,x,y,rfl,hl,M,hy,rfl⟩:=zV hu;obtain⟨cs,g1,g2⟩:=jv7 (b0:=(kR bd ie aW aI)) (b1:=x1) (b2:=x2) (b3:=x3) M hy;have w:=jmw hl (G0.1 M).1 g1;simp only[q2l]at w;refine .inr ⟨of_decide_eq_true mM,(aI.getD []).length,.cells [(.str eN.name,Ep),(Iv (qf .i64 (v9+v37.n)),Ep)],cs,?_,g2,by simp,by have:=(G0.1 M).1;omega⟩;rw[qh (show pr.bn 78=En Ei from rfl) (by simp)];simp only[go_sem,seval,Ei,jg I,wZ,jg h6,yZ,jg ep,jg jL,jg jM,pM,pN,pP,pQ,Eg,Eh,s6,jO,mM,pS,KE,Xv,jg zF,w,(show ∀n,below 5 (.ms 5 0 n)=Ep from fun _=>rfl),Hq,cond_false]
  .obtain⟨us,hu,h⟩:=qd h;cases h;obtain⟨n,x,y,rfl,hl,M,hy,rfl⟩:=zV hu;obtain⟨cs,g1,g2⟩:=jv7 (b0:=(kR bd ie aW aI)) (b1:=x1) (b2:=x2) (b3:=x3) M hy;have w:=jmw hl (G0.1 M).1 g1;simp only[q2l]at w;refine .inr ⟨of_decide_eq_true mM,(aI.getD []).length,.cells [(.str eN.name,Ep),(Iv v9,Ep)],cs,?_,g2,by simp,by have:=(G0.1 M).1;omega⟩;rw[qh (show pr.bn 78=En Ei from rfl) (by simp)];simp only[go_sem,seval,Ei,jg I,wZ,jg h6,yZ,jg ep,jg jL,jg jM,pM,pN,pP,pQ,Eg,Eh,s6,jO,mM,pS,KE,Xv,w,(show ∀n,below 5 (.ms 5 0 n)=Ep from fun _=>rfl),Hq,cond_false]
 .cases h;refine .inl ⟨of_decide_eq_false mM,rfl,?_⟩;rw[qh (show pr.bn 78=En Ei from rfl) (by simp)];simp only[go_sem,seval,Ei,jg I,wZ,jg h6,yZ,jg ep,jg jL,jg jM,pM,pN,pP,pQ,Eg,Eh,s6,jO,mM]<;>rfl
end Go.Z
end
