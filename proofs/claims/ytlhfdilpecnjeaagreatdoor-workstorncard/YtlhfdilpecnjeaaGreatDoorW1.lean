/- Chapter 10. -/
import Derived.Test.YtlhfdilpecnjeaaGreatDoorCA
set_option linter.unusedVariables false
set_option linter.unusedSimpArgs false
set_option maxRecDepth 100000
set_option maxHeartbeats 4000000
noncomputable section
open Option renaming some->En,none->Hb
open Bool renaming false->E6,true->Ha
namespace Go.Z
open Go Go.Abs Go.W
def f36 (O:Bool)(J:Int):Option Int:=
 cond O
  (En J)
  (En 0)
theorem dE {O J r}(h:f36 O J=En r):ae pr (X pr) 36 [.bool O,Iv J]=En (Iv r,E6):=by
 unfold f36 at h;refine zg c36 ?_
 repeat' first|(replace h:=qc h;rcases h with⟨g,h⟩|⟨g,h⟩)
 all_goals (cases h<;>(simp only[go_sem,seval,c36, *];exact⟨_,rfl⟩))
def BL (O:ak Int)(V:Int):Option (Int⊕(Int⊕Int)):=
 cond (decide (V<((O.getD []).length:Int)))
  (qa (qm (O.getD []) V) fun v10=>
  cond (decide (v10=0))
   (En (.inl (qd .i64 (V+1))))
   (En (.inr (.inl v10))))
  (En (.inr (.inr V)))
def Q0 (O:ak Int)(V:Int):bn:=⟨[(5,sl 1 jt O,E6),(6,Lv O,E6),(7,Iv V,E6)],[]⟩
def Q5 (O:ak Int):Int⊕Int->jb×bn
 | .inl d=>(.ret,⟨[(2,Iv d,E6)],[]⟩)| .inr d=>(.exit 0,⟨[(5,sl 1 jt O,E6),(6,Lv O,E6),(7,Iv d,E6),(8,.bool E6,E6)],[]⟩)
theorem j9p (O:ak Int)(V:Int)(r)(h:BL O V=En r):jy pr Q6 (Q0 O) (Q5 O) V r:=by
 unfold BL at h
 repeat' first|(replace h:=qb h;obtain⟨d,g,h⟩:=h)|(replace h:=qc h;rcases h with⟨g,h⟩|⟨g,h⟩)
 all_goals (cases h<;>((first|refine qu ?_|refine jz ?_);simp only[go_sem,seval,Q6,Q0,jq,Q5, *]<;>rfl))
theorem j6g (O:ak Int){V d}(h:bq (BL O) V=En d):X pr (.loop Q6) (Q0 O V)=En (Q5 O d):=z8 (j9p O) h
def f35 (O:ak Int):Option Int:=
 qa (bq (BL O) 0) fun d13=>match d13 with
  | .inl d15=>
   En d15
  | .inr d16=>
   En 0
theorem fY {O r}(h:f35 O=En r):ae pr (X pr) 35 [sl 1 jt O]=En (Iv r,E6):=by
 unfold f35 at h;refine zg c35 ?_
 repeat' first|(replace h:=qb h;obtain⟨d,g,h⟩:=h;with_reducible first|(replace g:=j6g O g;rcases d with d|d<;>dsimp only[Q0,Q5,zr]at g h)|skip)|(replace h:=qc h;rcases h with⟨g,h⟩|⟨g,h⟩)
 all_goals (cases h<;>(simp only[go_sem,seval,c35, *];exact⟨_,rfl⟩))
def f124 (O:Int)(J:Int)(a2:Int):Option Int:=
 cond (decide (O<J))
  (qa (f36 Ha 3) fun v2=>
  En v2)
  (qa (f36 (decide (a2<O)) 3) fun v4=>
  En v4)
theorem QQ {O J a2 r}(h:f124 O J a2=En r):ae pr (X pr) 124 [Iv O,Iv J,Iv a2]=En (Iv r,E6):=by
 unfold f124 at h;refine zg Ea ?_
 repeat' first|(replace h:=qb h;obtain⟨d,g,h⟩:=h;with_reducible first|replace g:=dE g|skip)|(replace h:=qc h;rcases h with⟨g,h⟩|⟨g,h⟩)
 all_goals (cases h<;>(simp only[go_sem,seval,Ea, *];exact⟨_,rfl⟩))
def yZ (O:aj)(V:Int):Option (Int⊕(Unit⊕Int)):=
 cond (decide (V<(O.length:Int)))
  (qa (qm O V) fun v70=>
  cond (decide (65<=(v70.toNat:Int)))
   (cond (decide ((v70.toNat:Int)<=90))
    (cond (decide (48<=(v70.toNat:Int)))
     (cond (decide ((v70.toNat:Int)<=57))
      (En (.inl (qd .i64 (V+1))))
      (En (.inl (qd .i64 (V+1)))))
     (En (.inl (qd .i64 (V+1)))))
    (cond (decide (97<=(v70.toNat:Int)))
     (cond (decide (48<=(v70.toNat:Int)))
      (cond (decide ((v70.toNat:Int)<=57))
       (cond (decide ((v70.toNat:Int)<=122))
        (En (.inl (qd .i64 (V+1))))
        (cond (decide (V=0))
         (En (.inr (.inl ())))
         (En (.inl (qd .i64 (V+1))))))
       (cond (decide ((v70.toNat:Int)<=122))
        (En (.inl (qd .i64 (V+1))))
        (cond (decide (V=0))
         (En (.inr (.inl ())))
         (cond (decide ((v70.toNat:Int)=95))
          (En (.inl (qd .i64 (V+1))))
          (En (.inr (.inl ())))))))
      (cond (decide ((v70.toNat:Int)<=122))
       (En (.inl (qd .i64 (V+1))))
       (cond (decide (V=0))
        (En (.inr (.inl ())))
        (cond (decide ((v70.toNat:Int)=95))
         (En (.inl (qd .i64 (V+1))))
         (En (.inr (.inl ())))))))
     (cond (decide (48<=(v70.toNat:Int)))
      (cond (decide ((v70.toNat:Int)<=57))
       (cond (decide (V=0))
        (En (.inr (.inl ())))
        (En (.inl (qd .i64 (V+1)))))
       (cond (decide (V=0))
        (En (.inr (.inl ())))
        (cond (decide ((v70.toNat:Int)=95))
         (En (.inl (qd .i64 (V+1))))
         (En (.inr (.inl ()))))))
      (cond (decide (V=0))
       (En (.inr (.inl ())))
       (cond (decide ((v70.toNat:Int)=95))
        (En (.inl (qd .i64 (V+1))))
        (En (.inr (.inl ()))))))))
   (cond (decide (97<=(v70.toNat:Int)))
    (cond (decide (48<=(v70.toNat:Int)))
     (cond (decide ((v70.toNat:Int)<=57))
      (cond (decide ((v70.toNat:Int)<=122))
       (En (.inl (qd .i64 (V+1))))
       (cond (decide (V=0))
        (En (.inr (.inl ())))
        (En (.inl (qd .i64 (V+1))))))
      (cond (decide ((v70.toNat:Int)<=122))
       (En (.inl (qd .i64 (V+1))))
       (cond (decide (V=0))
        (En (.inr (.inl ())))
        (cond (decide ((v70.toNat:Int)=95))
         (En (.inl (qd .i64 (V+1))))
         (En (.inr (.inl ())))))))
     (cond (decide ((v70.toNat:Int)<=122))
      (En (.inl (qd .i64 (V+1))))
      (cond (decide (V=0))
       (En (.inr (.inl ())))
       (cond (decide ((v70.toNat:Int)=95))
        (En (.inl (qd .i64 (V+1))))
        (En (.inr (.inl ())))))))
    (cond (decide (48<=(v70.toNat:Int)))
     (cond (decide ((v70.toNat:Int)<=57))
      (cond (decide (V=0))
       (En (.inr (.inl ())))
       (En (.inl (qd .i64 (V+1)))))
      (cond (decide (V=0))
       (En (.inr (.inl ())))
       (cond (decide ((v70.toNat:Int)=95))
        (En (.inl (qd .i64 (V+1))))
        (En (.inr (.inl ()))))))
     (cond (decide (V=0))
      (En (.inr (.inl ())))
      (cond (decide ((v70.toNat:Int)=95))
       (En (.inl (qd .i64 (V+1))))
       (En (.inr (.inl ()))))))))
  (En (.inr (.inr V)))
def Q7 (O:aj)(V:Int):bn:=⟨[(0,.str O,E6),(3,Iv V,E6)],[]⟩
def Q8 (O:aj):Unit⊕Int->jb×bn
 | .inl d=>(.ret,⟨[(2,.bool E6,E6)],[]⟩)| .inr d=>(.exit 0,⟨[(0,.str O,E6),(3,Iv d,E6),(17,.bool E6,E6)],[]⟩)
theorem j8u (O:aj)(V:Int)(r)(h:yZ O V=En r):jy pr Q9 (Q7 O) (Q8 O) V r:=by
 unfold yZ at h
 repeat' first|(replace h:=qb h;obtain⟨d,g,h⟩:=h)|(replace h:=qc h;rcases h with⟨g,h⟩|⟨g,h⟩)
 all_goals (cases h<;>((first|refine qu ?_|refine jz ?_);simp only[go_sem,seval,Q9,Q7,VK,Q8, *]<;>rfl))
theorem j4q (O:aj){V d}(h:bq (yZ O) V=En d):X pr (.loop Q9) (Q7 O V)=En (Q8 O d):=z8 (j8u O) h
def f78 (O:aj):Option Bool:=
 cond (decide ((O.length:Int)=0))
  (En E6)
  (cond (decide (24<(O.length:Int)))
   (En E6)
   (qa (bq (yZ O) 0) fun d112=>match d112 with
    | .inl d114=>
     En E6
    | .inr d115=>
     En Ha))
theorem W78 {O r}(h:f78 O=En r):ae pr (X pr) 78 [.str O]=En (.bool r,E6):=by
 unfold f78 at h;refine zg c78 ?_
 repeat' first|(replace h:=qb h;obtain⟨d,g,h⟩:=h;with_reducible first|(replace g:=j4q O g;rcases d with d|d<;>dsimp only[Q7,Q8,zr]at g h)|skip)|(replace h:=qc h;rcases h with⟨g,h⟩|⟨g,h⟩)
 all_goals (cases h<;>(simp only[go_sem,seval,c78, *];exact⟨_,rfl⟩))
def zC (O:aj):Option (Option (Nat)⊕(Nat⊕Nat)):=
 cond (decide (0<O.length))
  (cond (decide (65<=((qj O 0).1:Int)))
   (cond (decide (((qj O 0).1:Int)<=90))
    (cond (decide (48<=((qj O 0).1:Int)))
     (cond (decide (((qj O 0).1:Int)<=57))
      (En (.inl (En (0+(qj O 0).2))))
      (En (.inl (En (0+(qj O 0).2)))))
     (En (.inl (En (0+(qj O 0).2)))))
    (cond (decide (97<=((qj O 0).1:Int)))
     (cond (decide (48<=((qj O 0).1:Int)))
      (cond (decide (((qj O 0).1:Int)<=57))
       (cond (decide (((qj O 0).1:Int)<=122))
        (En (.inl (En (0+(qj O 0).2))))
        (En (.inr (.inl (0+(qj O 0).2)))))
       (cond (decide (((qj O 0).1:Int)<=122))
        (En (.inl (En (0+(qj O 0).2))))
        (En (.inr (.inl (0+(qj O 0).2))))))
      (cond (decide (((qj O 0).1:Int)<=122))
       (En (.inl (En (0+(qj O 0).2))))
       (En (.inr (.inl (0+(qj O 0).2))))))
     (cond (decide (48<=((qj O 0).1:Int)))
      (cond (decide (((qj O 0).1:Int)<=57))
       (En (.inr (.inl (0+(qj O 0).2))))
       (En (.inr (.inl (0+(qj O 0).2)))))
      (En (.inr (.inl (0+(qj O 0).2)))))))
   (cond (decide (97<=((qj O 0).1:Int)))
    (cond (decide (48<=((qj O 0).1:Int)))
     (cond (decide (((qj O 0).1:Int)<=57))
      (cond (decide (((qj O 0).1:Int)<=122))
       (En (.inl (En (0+(qj O 0).2))))
       (En (.inr (.inl (0+(qj O 0).2)))))
      (cond (decide (((qj O 0).1:Int)<=122))
       (En (.inl (En (0+(qj O 0).2))))
       (En (.inr (.inl (0+(qj O 0).2))))))
     (cond (decide (((qj O 0).1:Int)<=122))
      (En (.inl (En (0+(qj O 0).2))))
      (En (.inr (.inl (0+(qj O 0).2))))))
    (cond (decide (48<=((qj O 0).1:Int)))
     (cond (decide (((qj O 0).1:Int)<=57))
      (En (.inr (.inl (0+(qj O 0).2))))
      (En (.inr (.inl (0+(qj O 0).2)))))
     (En (.inr (.inl (0+(qj O 0).2)))))))
  (En (.inr (.inr 0)))
def zE (O:aj)(V:Nat):Option (Option (Nat)⊕(Nat⊕Nat)):=
 cond (decide (V<O.length))
  (cond (decide (65<=((qj O V).1:Int)))
   (cond (decide (((qj O V).1:Int)<=90))
    (cond (decide (48<=((qj O V).1:Int)))
     (cond (decide (((qj O V).1:Int)<=57))
      (En (.inl (En (V+(qj O V).2))))
      (En (.inl (En (V+(qj O V).2)))))
     (En (.inl (En (V+(qj O V).2)))))
    (cond (decide (97<=((qj O V).1:Int)))
     (cond (decide (48<=((qj O V).1:Int)))
      (cond (decide (((qj O V).1:Int)<=57))
       (cond (decide (((qj O V).1:Int)<=122))
        (En (.inl (En (V+(qj O V).2))))
        (cond (decide ((V:Int)=0))
         (En (.inr (.inl (V+(qj O V).2))))
         (En (.inl (En (V+(qj O V).2))))))
       (cond (decide (((qj O V).1:Int)<=122))
        (En (.inl (En (V+(qj O V).2))))
        (cond (decide ((V:Int)=0))
         (En (.inr (.inl (V+(qj O V).2))))
         (cond (decide (((qj O V).1:Int)=95))
          (En (.inl (En (V+(qj O V).2))))
          (En (.inr (.inl (V+(qj O V).2))))))))
      (cond (decide (((qj O V).1:Int)<=122))
       (En (.inl (En (V+(qj O V).2))))
       (cond (decide ((V:Int)=0))
        (En (.inr (.inl (V+(qj O V).2))))
        (cond (decide (((qj O V).1:Int)=95))
         (En (.inl (En (V+(qj O V).2))))
         (En (.inr (.inl (V+(qj O V).2))))))))
     (cond (decide (48<=((qj O V).1:Int)))
      (cond (decide (((qj O V).1:Int)<=57))
       (cond (decide ((V:Int)=0))
        (En (.inr (.inl (V+(qj O V).2))))
        (En (.inl (En (V+(qj O V).2)))))
       (cond (decide ((V:Int)=0))
        (En (.inr (.inl (V+(qj O V).2))))
        (cond (decide (((qj O V).1:Int)=95))
         (En (.inl (En (V+(qj O V).2))))
         (En (.inr (.inl (V+(qj O V).2)))))))
      (cond (decide ((V:Int)=0))
       (En (.inr (.inl (V+(qj O V).2))))
       (cond (decide (((qj O V).1:Int)=95))
        (En (.inl (En (V+(qj O V).2))))
        (En (.inr (.inl (V+(qj O V).2)))))))))
   (cond (decide (97<=((qj O V).1:Int)))
    (cond (decide (48<=((qj O V).1:Int)))
     (cond (decide (((qj O V).1:Int)<=57))
      (cond (decide (((qj O V).1:Int)<=122))
       (En (.inl (En (V+(qj O V).2))))
       (cond (decide ((V:Int)=0))
        (En (.inr (.inl (V+(qj O V).2))))
        (En (.inl (En (V+(qj O V).2))))))
      (cond (decide (((qj O V).1:Int)<=122))
       (En (.inl (En (V+(qj O V).2))))
       (cond (decide ((V:Int)=0))
        (En (.inr (.inl (V+(qj O V).2))))
        (cond (decide (((qj O V).1:Int)=95))
         (En (.inl (En (V+(qj O V).2))))
         (En (.inr (.inl (V+(qj O V).2))))))))
     (cond (decide (((qj O V).1:Int)<=122))
      (En (.inl (En (V+(qj O V).2))))
      (cond (decide ((V:Int)=0))
       (En (.inr (.inl (V+(qj O V).2))))
       (cond (decide (((qj O V).1:Int)=95))
        (En (.inl (En (V+(qj O V).2))))
        (En (.inr (.inl (V+(qj O V).2))))))))
    (cond (decide (48<=((qj O V).1:Int)))
     (cond (decide (((qj O V).1:Int)<=57))
      (cond (decide ((V:Int)=0))
       (En (.inr (.inl (V+(qj O V).2))))
       (En (.inl (En (V+(qj O V).2)))))
      (cond (decide ((V:Int)=0))
       (En (.inr (.inl (V+(qj O V).2))))
       (cond (decide (((qj O V).1:Int)=95))
        (En (.inl (En (V+(qj O V).2))))
        (En (.inr (.inl (V+(qj O V).2)))))))
     (cond (decide ((V:Int)=0))
      (En (.inr (.inl (V+(qj O V).2))))
      (cond (decide (((qj O V).1:Int)=95))
       (En (.inl (En (V+(qj O V).2))))
       (En (.inr (.inl (V+(qj O V).2)))))))))
  (En (.inr (.inr V)))
def J5 (O:aj):Option (Nat)->Option (Option (Nat)⊕(Nat⊕Nat))
 |none=>zC O|some x=>zE O x
def qw5 (O:aj)(V:Nat):bn:=⟨[(0,.str O,E6),(8,.ptr 0 0,E6),(46,.bool E6,E6)],[.iter O V]⟩
def Eb (O:aj):Option (Nat)->bn
 |none=>⟨[(0,.str O,E6),(8,.ptr 0 0,E6)],[.iter O 0]⟩|some x=>qw5 O x
def Ec (O:aj):Nat⊕Nat->jb×bn
 | .inl d=>(.ret,⟨[(2,.bool E6,E6)],[.iter O d]⟩)| .inr d=>(.exit 0,⟨[(0,.str O,E6),(8,.ptr 0 0,E6),(9,.aJ [.bool E6],E6),(10,.bool E6,E6)],[.iter O d]⟩)
theorem juq (O:aj)(r)(h:zC O=En r):jy pr Ed (Eb O) (Ec O) Hb r:=by
 unfold zC at h
 repeat' first|(replace h:=qc h;rcases h with⟨g,h⟩|⟨g,h⟩)
 all_goals (cases h<;>((first|refine qu ?_|refine jz ?_);simp only[go_sem,seval,Ed,Eb,qw5,yJ,Ec, *]<;>rfl))
theorem juh (O:aj)(V:Nat)(r)(h:zE O V=En r):jy pr Ed (Eb O) (Ec O) (En V) r:=by
 unfold zE at h
 repeat' first|(replace h:=qc h;rcases h with⟨g,h⟩|⟨g,h⟩)
 all_goals (cases h<;>((first|refine qu ?_|refine jz ?_);simp only[go_sem,seval,Ed,Eb,qw5,yJ,Ec, *]<;>rfl))
theorem jyj (O:aj):∀(x:Option (Nat)) (r) (h:J5 O x=En r),jy pr Ed (Eb O) (Ec O) x r
 |none,r,h=>juq O r h|some x,r,h=>juh O x r h
theorem j2i (O:aj){V d}(h:bq (J5 O) V=En d):X pr (.loop Ed) (Eb O V)=En (Ec O d):=z8 (jyj O) h
def f105 (O:aj):Option Bool:=
 qa (bq (J5 O) Hb) fun d192=>match d192 with
  | .inl d194=>
   En E6
  | .inr d195=>
   cond (decide (O=[]))
    (En E6)
    (En (decide ((O.length:Int)<=24)))
theorem jxw {O r}(h:f105 O=En r):ae pr (X pr) 105 [.str O]=En (.bool r,E6):=by
 unfold f105 at h;refine zg Ee ?_
 repeat' first|(replace h:=qb h;obtain⟨d,g,h⟩:=h;with_reducible first|(replace g:=j2i O g;rcases d with d|d<;>dsimp only[Eb,Ec,zr]at g h)|skip)|(replace h:=qc h;rcases h with⟨g,h⟩|⟨g,h⟩)
 all_goals (cases h<;>(simp only[go_sem,seval,Ee, *];exact⟨_,rfl⟩))
end Go.Z
namespace Go.Z
open Go Go.Abs Go.W
def Gl (O:aj):Option Int:=
 qa (f105 O) fun v1=>
 qa (f36 (!v1) 8) fun v3=>
 En v3
theorem j6i (hp:qf){O r}(h:Gl O=En r):ai pr (X pr) 126 [.str O] hp=En (Iv r,E6,hp):=by
 unfold Gl at h;obtain⟨v1,I,h⟩:=qb h;have gE:ae pr (X pr) 105 [.str O]=En (.bool v1,E6):=jxw I;obtain⟨v3,h4,h⟩:=qb h;have qO:ae pr (X pr) 36 [.bool (!v1),Iv 8]=En (Iv v3,E6):=dE h4;have Q:v3=r:=En.inj h;subst Q;rw[qg (show pr.br 126=En Ef from rfl) (by simp)];simp only[go_sem,seval,Ef,gE,qO]<;>rfl
def Gm (O:Int):Option Int:=
 qa (f124 O 0 999999999) fun v1=>
 En v1
theorem j84 (hp:qf){O r}(h:Gm O=En r):ai pr (X pr) 128 [Iv O] hp=En (Iv r,E6,hp):=by
 unfold Gm at h;obtain⟨v1,I,h⟩:=qb h;have gE:ae pr (X pr) 124 [Iv O,Iv 0,Iv 999999999]=En (Iv v1,E6):=QQ I;have Q:v1=r:=En.inj h;subst Q;rw[qg (show pr.br 128=En Eg from rfl) (by simp)];simp only[go_sem,seval,Eg,gE]<;>rfl
def J6 (O:ak aj)(V:(ak Int)×Int×Bool):Option (((ak Int)×Int×Bool)⊕(((ak Int)×Bool×Int))):=
 cond (decide (V.2.1<((O.getD []).length:Int)))
  (qa (qm (O.getD []) V.2.1) fun eT=>
  qa (Gl eT) fun v20=>
  cond V.2.2
   (qa (bC V.1 [v20]) fun v23=>
   En (.inl (v23,qd .i64 (V.2.1+1),Ha)))
   (cond V.1.isNone
    (qa (bC V.1 [v20]) fun v26=>
    En (.inl (v26,qd .i64 (V.2.1+1),Ha)))
    (Hb)))
  (En (.inr (V.1,V.2.2,V.2.1)))
def Ra (O:ak aj)(V:(ak Int)×Int×Bool):bn:=⟨[(1,.fn (.func 126) [] [],E6),(5,sl 1 jt V.1,V.2.2),(8,sl 1 jf O,E6),(9,Lv O,E6),(10,Iv V.2.1,E6)],[]⟩
def Rb (O:ak aj)(d:((ak Int)×Bool×Int)):jb×bn:=(.exit 0,⟨[(1,.fn (.func 126) [] [],E6),(5,sl 1 jt d.1,d.2.1),(8,sl 1 jf O,E6),(9,Lv O,E6),(10,Iv d.2.2,E6),(11,.bool E6,E6)],[]⟩)
theorem j06 (O:ak aj)(V:(ak Int)×Int×Bool)(r)(h:J6 O V=En r):jy pr Rc (Ra O) (Rb O) V r:=by
 unfold J6 at h
 repeat' first|(replace h:=qb h;obtain⟨d,g,h⟩:=h;with_reducible first|replace g:=j6i [] g|replace g:=jbo g|skip)|(replace h:=qc h;rcases h with⟨g,h⟩|⟨g,h⟩)
 all_goals (cases h<;>((first|refine qu ?_|refine jz ?_);simp only[go_sem,seval,Rc,Ra,jq,Rb, *]<;>rfl))
theorem j20 (O:ak aj){V d}(h:bq (J6 O) V=En d):X pr (.loop Rc) (Ra O V)=En (Rb O d):=z8 (j06 O) h
def f125 (O:ak aj):Option ((ak Int)×Bool):=
 qa (bq (J6 O) (Hb,0,E6)) fun d28=>
 En (d28.1,d28.2.1)
theorem zj9 {O r}(h:f125 O=En r):ae pr (X pr) 125 [sl 1 jf O,.fn (.func 126) [] []]=En (sl 1 jt r.1,r.2):=by
 unfold f125 at h;refine yq Eh ?_
 repeat' first|(replace h:=qb h;obtain⟨d,g,h⟩:=h;with_reducible first|(replace g:=j20 O g;dsimp only[Ra,Rb,zr]at g h)|skip)|(replace h:=qc h;rcases h with⟨g,h⟩|⟨g,h⟩)
 all_goals (cases h<;>(simp only[go_sem,seval,Eh, *];exact⟨_,rfl⟩))
def J7 (O:ak Int)(V:(ak Int)×Int×Bool):Option (((ak Int)×Int×Bool)⊕(((ak Int)×Bool×Int))):=
 cond (decide (V.2.1<((O.getD []).length:Int)))
  (qa (qm (O.getD []) V.2.1) fun eT=>
  qa (Gm eT) fun v20=>
  cond V.2.2
   (qa (bC V.1 [v20]) fun v23=>
   En (.inl (v23,qd .i64 (V.2.1+1),Ha)))
   (cond V.1.isNone
    (qa (bC V.1 [v20]) fun v26=>
    En (.inl (v26,qd .i64 (V.2.1+1),Ha)))
    (Hb)))
  (En (.inr (V.1,V.2.2,V.2.1)))
def Rd (O:ak Int)(V:(ak Int)×Int×Bool):bn:=⟨[(1,.fn (.func 128) [] [],E6),(5,sl 1 jt V.1,V.2.2),(8,sl 1 jt O,E6),(9,Lv O,E6),(10,Iv V.2.1,E6)],[]⟩
def Rf (O:ak Int)(d:((ak Int)×Bool×Int)):jb×bn:=(.exit 0,⟨[(1,.fn (.func 128) [] [],E6),(5,sl 1 jt d.1,d.2.1),(8,sl 1 jt O,E6),(9,Lv O,E6),(10,Iv d.2.2,E6),(11,.bool E6,E6)],[]⟩)
theorem jyp (O:ak Int)(V:(ak Int)×Int×Bool)(r)(h:J7 O V=En r):jy pr Rg (Rd O) (Rf O) V r:=by
 unfold J7 at h
 repeat' first|(replace h:=qb h;obtain⟨d,g,h⟩:=h;with_reducible first|replace g:=j84 [] g|replace g:=jbo g|skip)|(replace h:=qc h;rcases h with⟨g,h⟩|⟨g,h⟩)
 all_goals (cases h<;>((first|refine qu ?_|refine jz ?_);simp only[go_sem,seval,Rg,Rd,jq,Rf, *]<;>rfl))
theorem jym (O:ak Int){V d}(h:bq (J7 O) V=En d):X pr (.loop Rg) (Rd O V)=En (Rf O d):=z8 (jyp O) h
def f127 (O:ak Int):Option ((ak Int)×Bool):=
 qa (bq (J7 O) (Hb,0,E6)) fun d28=>
 En (d28.1,d28.2.1)
theorem zfe {O r}(h:f127 O=En r):ae pr (X pr) 127 [sl 1 jt O,.fn (.func 128) [] []]=En (sl 1 jt r.1,r.2):=by
 unfold f127 at h;refine yq Ei ?_
 repeat' first|(replace h:=qb h;obtain⟨d,g,h⟩:=h;with_reducible first|(replace g:=jym O g;dsimp only[Rd,Rf,zr]at g h)|skip)|(replace h:=qc h;rcases h with⟨g,h⟩|⟨g,h⟩)
 all_goals (cases h<;>(simp only[go_sem,seval,Ei, *];exact⟨_,rfl⟩))
def f120 (O:ak aj):Option ((ak aj)×Bool):=
 cond O.isNone
  (En (Hb,E6))
  (qa (bC (En []) (O.getD [])) fun v2=>
  En (v2,Ha))
theorem jx0 {O r}(h:f120 O=En r):ae pr (X pr) 120 [sl 1 jf O]=En (sl 1 jf r.1,r.2):=by
 unfold f120 at h;refine yq Ej ?_
 repeat' first|(replace h:=qb h;obtain⟨d,g,h⟩:=h)|(replace h:=qc h;rcases h with⟨g,h⟩|⟨g,h⟩)
 all_goals (cases h<;>(simp only[go_sem,seval,Ej,nF, *];exact⟨_,rfl⟩))
def f131 (O:ak Int):Option ((ak Int)×Bool):=
 cond O.isNone
  (En (Hb,E6))
  (qa (bC (En []) (O.getD [])) fun v2=>
  En (v2,Ha))
theorem zcw {O r}(h:f131 O=En r):ae pr (X pr) 131 [sl 1 jt O]=En (sl 1 jt r.1,r.2):=by
 unfold f131 at h;refine yq Ek ?_
 repeat' first|(replace h:=qb h;obtain⟨d,g,h⟩:=h)|(replace h:=qc h;rcases h with⟨g,h⟩|⟨g,h⟩)
 all_goals (cases h<;>(simp only[go_sem,seval,Ek,nF, *];exact⟨_,rfl⟩))
def f46 (O:GEv):Option GEv:=
 qa (f120 O.names) fun v1=>
 qa (f131 O.values) fun v3=>
 cond v1.2
  (cond v3.2
   (En (⟨O.number,O.kind,v1.1,v3.1,O.text⟩))
   (En (⟨O.number,O.kind,v1.1,v3.1,O.text⟩)))
  (cond v3.2
   (En (⟨O.number,O.kind,v1.1,v3.1,O.text⟩))
   (En (⟨O.number,O.kind,v1.1,v3.1,O.text⟩)))
theorem W46 {O r}(h:f46 O=En r):ae pr (X pr) 46 [aE O]=En (aE r,E6):=by
 unfold f46 at h;refine zg c46 ?_
 repeat' first|(replace h:=qb h;obtain⟨d,g,h⟩:=h;with_reducible first|replace g:=jx0 g|replace g:=zcw g|skip)|(replace h:=qc h;rcases h with⟨g,h⟩|⟨g,h⟩)
 all_goals (cases h<;>(simp only[go_sem,seval,c46, *];exact⟨_,rfl⟩))
def Rh (O:ak aj)(J:aj)(V:Int):Option (Int⊕(Int⊕Int)):=
 cond (decide (V<((O.getD []).length:Int)))
  (qa (qm (O.getD []) V) fun v10=>
  cond (decide (J=v10))
   (En (.inr (.inl V)))
   (En (.inl (qd .i64 (V+1)))))
  (En (.inr (.inr V)))
def Ri (O:ak aj)(J:aj)(V:Int):bn:=⟨[(0,sl 1 jf O,E6),(1,.str J,E6),(7,Lv O,E6),(8,Iv V,E6)],[]⟩
def Rj (O:ak aj)(J:aj):Int⊕Int->jb×bn
 | .inl d=>(.ret,⟨[(4,Iv d,E6)],[]⟩)| .inr d=>(.exit 0,⟨[(0,sl 1 jf O,E6),(1,.str J,E6),(7,Lv O,E6),(8,Iv d,E6),(9,.bool E6,E6)],[]⟩)
theorem j1p (O:ak aj)(J:aj)(V:Int)(r)(h:Rh O J V=En r):jy pr Rk (Ri O J) (Rj O J) V r:=by
 unfold Rh at h
 repeat' first|(replace h:=qb h;obtain⟨d,g,h⟩:=h)|(replace h:=qc h;rcases h with⟨g,h⟩|⟨g,h⟩)
 all_goals (cases h<;>((first|refine qu ?_|refine jz ?_);simp only[go_sem,seval,Rk,Ri,jq,Rj, *]<;>rfl))
theorem jxx (O:ak aj)(J:aj){V d}(h:bq (Rh O J) V=En d):X pr (.loop Rk) (Ri O J V)=En (Rj O J d):=z8 (j1p O J) h
def f149 (O:ak aj)(J:aj):Option Int:=
 qa (bq (Rh O J) 0) fun d13=>match d13 with
  | .inl d15=>
   En d15
  | .inr d16=>
   En (-1)
theorem zie {O J r}(h:f149 O J=En r):ae pr (X pr) 149 [sl 1 jf O,.str J]=En (Iv r,E6):=by
 unfold f149 at h;refine zg El ?_
 repeat' first|(replace h:=qb h;obtain⟨d,g,h⟩:=h;with_reducible first|(replace g:=jxx O J g;rcases d with d|d<;>dsimp only[Ri,Rj,zr]at g h)|skip)|(replace h:=qc h;rcases h with⟨g,h⟩|⟨g,h⟩)
 all_goals (cases h<;>(simp only[go_sem,seval,El, *];exact⟨_,rfl⟩))
def f63 (O:ak aj)(J:aj):Option Bool:=
 qa (f149 O J) fun v1=>
 En (decide (0<=v1))
theorem Py {O J r}(h:f63 O J=En r):ae pr (X pr) 63 [sl 1 jf O,.str J]=En (.bool r,E6):=by
 unfold f63 at h;refine zg c63 ?_
 repeat' first|(replace h:=qb h;obtain⟨d,g,h⟩:=h;with_reducible first|replace g:=zie g|skip)|(replace h:=qc h;rcases h with⟨g,h⟩|⟨g,h⟩)
 all_goals (cases h<;>(simp only[go_sem,seval,c63, *];exact⟨_,rfl⟩))
end Go.Z
namespace Go.Z
open Go Go.Abs Go.W
def Rl (O:aw)(J:aj)(V:Int):Option (Int⊕(Int⊕Int)):=
 cond (decide (V<((O.units.getD []).length:Int)))
  (qa (qm (O.units.getD []) V) fun v10=>
  cond (decide (v10.name=J))
   (En (.inr (.inl V)))
   (En (.inl (qd .i64 (V+1)))))
  (En (.inr (.inr V)))
def Rm (O:aw)(J:aj)(V:Int):bn:=⟨[(1,.str J,E6),(2,.aq (aR O),E6),(5,Iv V,E6)],[]⟩
def Rn (O:aw)(J:aj):Int⊕Int->jb×bn
 | .inl d=>(.ret,⟨[(4,Iv d,E6)],[]⟩)| .inr d=>(.exit 0,⟨[(1,.str J,E6),(2,.aq (aR O),E6),(5,Iv d,E6),(10,.bool E6,E6)],[]⟩)
theorem j4u (O:aw)(J:aj)(V:Int)(r)(h:Rl O J V=En r):jy pr Ro (Rm O J) (Rn O J) V r:=by
 unfold Rl at h
 repeat' first|(replace h:=qb h;obtain⟨d,g,h⟩:=h)|(replace h:=qc h;rcases h with⟨g,h⟩|⟨g,h⟩)
 all_goals (cases h<;>((first|refine qu ?_|refine jz ?_);simp only[go_sem,seval,Ro,Rm,jq,Rn, *]<;>rfl))
theorem j9j (O:aw)(J:aj){V d}(h:bq (Rl O J) V=En d):X pr (.loop Ro) (Rm O J V)=En (Rn O J d):=z8 (j4u O J) h
def f83 (O:aw)(J:aj):Option Int:=
 qa (bq (Rl O J) 0) fun d13=>match d13 with
  | .inl d15=>
   En d15
  | .inr d16=>
   En (-1)
theorem W83 {O J r}(h:f83 O J=En r):ae pr (X pr) 83 [aR O,.str J]=En (Iv r,E6):=by
 unfold f83 at h;refine zg c83 ?_
 repeat' first|(replace h:=qb h;obtain⟨d,g,h⟩:=h;with_reducible first|(replace g:=j9j O J g;rcases d with d|d<;>dsimp only[Rm,Rn,zr]at g h)|skip)|(replace h:=qc h;rcases h with⟨g,h⟩|⟨g,h⟩)
 all_goals (cases h<;>(simp only[go_sem,seval,c83, *];exact⟨_,rfl⟩))
def Rp (O:aw)(J:aj)(V:Int):Option (Int⊕(Int⊕Int)):=
 cond (decide (V<((O.az.getD []).length:Int)))
  (qa (qm (O.az.getD []) V) fun v10=>
  cond (decide (v10.name=J))
   (En (.inr (.inl V)))
   (En (.inl (qd .i64 (V+1)))))
  (En (.inr (.inr V)))
def Rq (O:aw)(J:aj)(V:Int):bn:=⟨[(1,.str J,E6),(2,.aq (aR O),E6),(5,Iv V,E6)],[]⟩
def Rr (O:aw)(J:aj):Int⊕Int->jb×bn
 | .inl d=>(.ret,⟨[(4,Iv d,E6)],[]⟩)| .inr d=>(.exit 0,⟨[(1,.str J,E6),(2,.aq (aR O),E6),(5,Iv d,E6),(10,.bool E6,E6)],[]⟩)
theorem j5j (O:aw)(J:aj)(V:Int)(r)(h:Rp O J V=En r):jy pr Rs (Rq O J) (Rr O J) V r:=by
 unfold Rp at h
 repeat' first|(replace h:=qb h;obtain⟨d,g,h⟩:=h)|(replace h:=qc h;rcases h with⟨g,h⟩|⟨g,h⟩)
 all_goals (cases h<;>((first|refine qu ?_|refine jz ?_);simp only[go_sem,seval,Rs,Rq,jq,Rr, *]<;>rfl))
theorem j63 (O:aw)(J:aj){V d}(h:bq (Rp O J) V=En d):X pr (.loop Rs) (Rq O J V)=En (Rr O J d):=z8 (j5j O J) h
def f80 (O:aw)(J:aj):Option Int:=
 qa (bq (Rp O J) 0) fun d13=>match d13 with
  | .inl d15=>
   En d15
  | .inr d16=>
   En (-1)
theorem Lk {O J r}(h:f80 O J=En r):ae pr (X pr) 80 [aR O,.str J]=En (Iv r,E6):=by
 unfold f80 at h;refine zg c80 ?_
 repeat' first|(replace h:=qb h;obtain⟨d,g,h⟩:=h;with_reducible first|(replace g:=j63 O J g;rcases d with d|d<;>dsimp only[Rq,Rr,zr]at g h)|skip)|(replace h:=qc h;rcases h with⟨g,h⟩|⟨g,h⟩)
 all_goals (cases h<;>(simp only[go_sem,seval,c80, *];exact⟨_,rfl⟩))
def Rt (O:aw)(J:aj)(V:Int):Option (Int⊕(Int⊕Int)):=
 cond (decide (V<((O.ah.getD []).length:Int)))
  (qa (qm (O.ah.getD []) V) fun v10=>
  cond (decide (v10.name=J))
   (En (.inr (.inl V)))
   (En (.inl (qd .i64 (V+1)))))
  (En (.inr (.inr V)))
def Ru (O:aw)(J:aj)(V:Int):bn:=⟨[(1,.str J,E6),(2,.aq (aR O),E6),(5,Iv V,E6)],[]⟩
def Rv (O:aw)(J:aj):Int⊕Int->jb×bn
 | .inl d=>(.ret,⟨[(4,Iv d,E6)],[]⟩)| .inr d=>(.exit 0,⟨[(1,.str J,E6),(2,.aq (aR O),E6),(5,Iv d,E6),(10,.bool E6,E6)],[]⟩)
theorem j88 (O:aw)(J:aj)(V:Int)(r)(h:Rt O J V=En r):jy pr Rw (Ru O J) (Rv O J) V r:=by
 unfold Rt at h
 repeat' first|(replace h:=qb h;obtain⟨d,g,h⟩:=h)|(replace h:=qc h;rcases h with⟨g,h⟩|⟨g,h⟩)
 all_goals (cases h<;>((first|refine qu ?_|refine jz ?_);simp only[go_sem,seval,Rw,Ru,jq,Rv, *]<;>rfl))
theorem j65 (O:aw)(J:aj){V d}(h:bq (Rt O J) V=En d):X pr (.loop Rw) (Ru O J V)=En (Rv O J d):=z8 (j88 O J) h
def f82 (O:aw)(J:aj):Option Int:=
 qa (bq (Rt O J) 0) fun d13=>match d13 with
  | .inl d15=>
   En d15
  | .inr d16=>
   En (-1)
theorem QP {O J r}(h:f82 O J=En r):ae pr (X pr) 82 [aR O,.str J]=En (Iv r,E6):=by
 unfold f82 at h;refine zg c82 ?_
 repeat' first|(replace h:=qb h;obtain⟨d,g,h⟩:=h;with_reducible first|(replace g:=j65 O J g;rcases d with d|d<;>dsimp only[Ru,Rv,zr]at g h)|skip)|(replace h:=qc h;rcases h with⟨g,h⟩|⟨g,h⟩)
 all_goals (cases h<;>(simp only[go_sem,seval,c82, *];exact⟨_,rfl⟩))
def B6 (O:ak GEv)(V:Int)(s1:Int):Option (Int⊕(Unit⊕Int)):=
 qa (qm (O.getD []) V) fun v79=>
 cond (decide (s1<((v79.names.getD []).length:Int)))
  (qa (qm (v79.names.getD []) s1) fun v82=>
  cond (decide (40<(v82.length:Int)))
   (En (.inr (.inl ())))
   (En (.inl (qd .i64 (s1+1)))))
  (En (.inr (.inr s1)))
def Rx (O:ak GEv)(V:Int)(s1:Int):bn:=⟨[(0,sl 5 vev O,E6),(5,Iv V,E6),(6,Iv s1,E6)],[]⟩
def Ry (O:ak GEv)(V:Int):Unit⊕Int->jb×bn
 | .inl d=>(.ret,⟨[(4,.bool E6,E6)],[]⟩)| .inr d=>(.exit 2,⟨[(0,sl 5 vev O,E6),(5,Iv V,E6),(6,Iv d,E6),(58,.bool E6,E6)],[]⟩)
theorem j6f (O:ak GEv)(V:Int)(s1:Int)(r)(h:B6 O V s1=En r):jy pr Rz (Rx O V) (Ry O V) s1 r:=by
 unfold B6 at h
 repeat' first|(replace h:=qb h;obtain⟨d,g,h⟩:=h)|(replace h:=qc h;rcases h with⟨g,h⟩|⟨g,h⟩)
 all_goals (cases h<;>((first|refine qu ?_|refine jz ?_);simp only[go_sem,seval,Rz,Rx,jq,Ry, *]<;>rfl))
theorem j7q (O:ak GEv)(V:Int){s1 d}(h:bq (B6 O V) s1=En d):X pr (.loop Rz) (Rx O V s1)=En (Ry O V d):=z8 (j6f O V) h
def B5 (O:ak GEv)(V:Int):Option (Int⊕(Unit⊕Int)):=
 cond (decide (V<((O.getD []).length:Int)))
  (qa (qm (O.getD []) V) fun xC=>
  cond (decide (40<(xC.kind.length:Int)))
   (En (.inr (.inl ())))
   (cond (decide (6<((xC.names.getD []).length:Int)))
    (En (.inr (.inl ())))
    (cond (decide (8<((xC.values.getD []).length:Int)))
     (En (.inr (.inl ())))
     (cond (decide (200<(xC.text.length:Int)))
      (En (.inr (.inl ())))
      (qa (bq (B6 O V) 0) fun d85=>match d85 with
       | .inl d87=>
        En (.inr (.inl ()))
       | .inr d88=>
        En (.inl (qd .i64 (V+1))))))))
  (En (.inr (.inr V)))
def RA (O:ak GEv)(V:Int):bn:=⟨[(0,sl 5 vev O,E6),(5,Iv V,E6)],[]⟩
def RB (O:ak GEv):Unit⊕Int->jb×bn
 | .inl d=>(.ret,⟨[(4,.bool E6,E6)],[]⟩)| .inr d=>(.exit 0,⟨[(0,sl 5 vev O,E6),(5,Iv d,E6),(14,.bool E6,E6)],[]⟩)
theorem j49 (O:ak GEv)(V:Int)(r)(h:B5 O V=En r):jy pr RC (RA O) (RB O) V r:=by
 unfold B5 at h
 repeat' first|(replace h:=qb h;obtain⟨d,g,h⟩:=h;with_reducible first|(replace g:=j7q O V g;rcases d with d|d<;>dsimp only[Rx,Ry,zr]at g h)|skip)|(replace h:=qc h;rcases h with⟨g,h⟩|⟨g,h⟩)
 all_goals (cases h<;>((first|refine qu ?_|refine jz ?_);simp only[go_sem,seval,RC,RA,jq,RB, *]<;>rfl))
theorem j74 (O:ak GEv){V d}(h:bq (B5 O) V=En d):X pr (.loop RC) (RA O V)=En (RB O d):=z8 (j49 O) h
def f51 (O:ak GEv)(J:Int):Option Bool:=
 cond (decide (J<((O.getD []).length:Int)))
  (En E6)
  (qa (bq (B5 O) 0) fun d89=>match d89 with
   | .inl d91=>
    En E6
   | .inr d92=>
    En Ha)
theorem W51 {O J r}(h:f51 O J=En r):ae pr (X pr) 51 [sl 5 vev O,Iv J]=En (.bool r,E6):=by
 unfold f51 at h;refine zg ol ?_
 repeat' first|(replace h:=qb h;obtain⟨d,g,h⟩:=h;with_reducible first|(replace g:=j74 O g;rcases d with d|d<;>dsimp only[RA,RB,zr]at g h)|skip)|(replace h:=qc h;rcases h with⟨g,h⟩|⟨g,h⟩)
 all_goals (cases h<;>(simp only[go_sem,seval,ol, *];exact⟨_,rfl⟩))
def BI (O:aw)(J:bw)(a2:aj)(V:Int×Int):Option ((Int×Int)⊕((Int×Int))):=
 cond (decide (V.2<((J.uses.getD []).length:Int)))
  (qa (qm (J.uses.getD []) V.2) fun eT=>
  qa (f80 O eT.k) fun v20=>
  qa (qm (O.az.getD []) v20) fun v22=>
  cond (decide (v22.kind=a2))
   (En (.inl (qd .i64 (V.1+eT.n),qd .i64 (V.2+1))))
   (En (.inl (V.1,qd .i64 (V.2+1)))))
  (En (.inr (V.1,V.2)))
def RD (O:aw)(J:bw)(a2:aj)(V:Int×Int):bn:=⟨[(2,.str a2,E6),(3,.aq (aR O),E6),(4,.aq (aU J),E6),(7,Iv V.1,E6),(8,Iv V.2,E6)],[]⟩
def RE (O:aw)(J:bw)(a2:aj)(d:(Int×Int)):jb×bn:=(.exit 0,⟨[(2,.str a2,E6),(3,.aq (aR O),E6),(4,.aq (aU J),E6),(7,Iv d.1,E6),(8,Iv d.2,E6),(13,.bool E6,E6)],[]⟩)
theorem j2l (O:aw)(J:bw)(a2:aj)(V:Int×Int)(r)(h:BI O J a2 V=En r):jy pr RF (RD O J a2) (RE O J a2) V r:=by
 unfold BI at h
 repeat' first|(replace h:=qb h;obtain⟨d,g,h⟩:=h;with_reducible first|replace g:=Lk g|skip)|(replace h:=qc h;rcases h with⟨g,h⟩|⟨g,h⟩)
 all_goals (cases h<;>((first|refine qu ?_|refine jz ?_);simp only[go_sem,seval,RF,RD,jq,RE, *]<;>rfl))
theorem jxd (O:aw)(J:bw)(a2:aj){V d}(h:bq (BI O J a2) V=En d):X pr (.loop RF) (RD O J a2 V)=En (RE O J a2 d):=z8 (j2l O J a2) h
def f277 (O:aw)(J:bw)(a2:aj):Option Int:=
 qa (bq (BI O J a2) (0,0)) fun d25=>
 En d25.1
theorem zdv {O J a2 r}(h:f277 O J a2=En r):ae pr (X pr) 277 [aR O,aU J,.str a2]=En (Iv r,E6):=by
 unfold f277 at h;refine zg Em ?_
 repeat' first|(replace h:=qb h;obtain⟨d,g,h⟩:=h;with_reducible first|(replace g:=jxd O J a2 g;dsimp only[RD,RE,zr]at g h)|skip)|(replace h:=qc h;rcases h with⟨g,h⟩|⟨g,h⟩)
 all_goals (cases h<;>(simp only[go_sem,seval,Em, *];exact⟨_,rfl⟩))
def f157 (O:aw)(J:bw):Option cg:=
 qa (f82 O J.product) fun v1=>
 qa (qm (O.ah.getD []) v1) fun v3=>
 qa (qm (v3.bm.getD []) (qd .i64 (J.version-1))) fun v5=>
 En v5
theorem RH {O J r}(h:f157 O J=En r):ae pr (X pr) 157 [aR O,aU J]=En (aD r,E6):=by
 unfold f157 at h;refine zg Eo ?_
 repeat' first|(replace h:=qb h;obtain⟨d,g,h⟩:=h;with_reducible first|replace g:=QP g|skip)|(replace h:=qc h;rcases h with⟨g,h⟩|⟨g,h⟩)
 all_goals (cases h<;>(simp only[go_sem,seval,Eo,jq, *];exact⟨_,rfl⟩))
def BE (O:bw)(J:jg)(V:Bool×Int):Option ((Bool×Int)⊕((Bool×Int))):=
 cond (decide (V.2<((O.results.getD []).length:Int)))
  (qa (qm (O.results.getD []) V.2) fun dj=>
  cond (decide (dj.k=J.k))
   (cond (decide (dj.a=O.version))
    (cond (decide (J.a<=dj.b))
     (En (.inl (decide (dj.b<=J.b),qd .i64 (V.2+1))))
     (En (.inl (E6,qd .i64 (V.2+1)))))
    (En (.inl (V.1,qd .i64 (V.2+1)))))
   (En (.inl (V.1,qd .i64 (V.2+1)))))
  (En (.inr (V.1,V.2)))
def RI (O:bw)(J:jg)(V:Bool×Int):bn:=⟨[(2,.aq (aU O),E6),(3,.aq (aT J),E6),(5,.bool V.1,E6),(6,Iv V.2,E6)],[]⟩
def RJ (O:bw)(J:jg)(d:(Bool×Int)):jb×bn:=(.exit 0,⟨[(2,.aq (aU O),E6),(3,.aq (aT J),E6),(5,.bool d.1,E6),(6,Iv d.2,E6),(12,.bool E6,E6)],[]⟩)
theorem jww (O:bw)(J:jg)(V:Bool×Int)(r)(h:BE O J V=En r):jy pr RL (RI O J) (RJ O J) V r:=by
 unfold BE at h
 repeat' first|(replace h:=qb h;obtain⟨d,g,h⟩:=h)|(replace h:=qc h;rcases h with⟨g,h⟩|⟨g,h⟩)
 all_goals (cases h<;>((first|refine qu ?_|refine jz ?_);simp only[go_sem,seval,RL,RI,jq,RJ, *]<;>rfl))
theorem jxj (O:bw)(J:jg){V d}(h:bq (BE O J) V=En d):X pr (.loop RL) (RI O J V)=En (RJ O J d):=z8 (jww O J) h
def f158 (O:bw)(J:jg):Option Bool:=
 qa (bq (BE O J) (E6,0)) fun d19=>
 En d19.1
theorem zhn {O J r}(h:f158 O J=En r):ae pr (X pr) 158 [aU O,aT J]=En (.bool r,E6):=by
 unfold f158 at h;refine zg Ep ?_
 repeat' first|(replace h:=qb h;obtain⟨d,g,h⟩:=h;with_reducible first|(replace g:=jxj O J g;dsimp only[RI,RJ,zr]at g h)|skip)|(replace h:=qc h;rcases h with⟨g,h⟩|⟨g,h⟩)
 all_goals (cases h<;>(simp only[go_sem,seval,Ep, *];exact⟨_,rfl⟩))
def f223 (O:aw)(J:bw):Option Int:=
 qa (f82 O J.product) fun v1=>
 qa (qm (O.ah.getD []) v1) fun v3=>
 En ((v3.bm.getD []).length:Int)
theorem j21 {O J r}(h:f223 O J=En r):ae pr (X pr) 223 [aR O,aU J]=En (Iv r,E6):=by
 unfold f223 at h;refine zg Er ?_
 repeat' first|(replace h:=qb h;obtain⟨d,g,h⟩:=h;with_reducible first|replace g:=QP g|skip)|(replace h:=qc h;rcases h with⟨g,h⟩|⟨g,h⟩)
 all_goals (cases h<;>(simp only[go_sem,seval,Er,jq, *];exact⟨_,rfl⟩))
def BJ (O:aw)(J:bw)(v1:cg)(V:Int):Option (Int⊕(Unit⊕Int)):=
 cond (decide (V<((v1.bd.getD []).length:Int)))
  (qa (qm (v1.bd.getD []) V) fun eg=>
  qa (f277 O J eg.k) fun eT=>
  cond (decide (eT<eg.n))
   (En (.inr (.inl ())))
   (En (.inl (qd .i64 (V+1)))))
  (En (.inr (.inr V)))
def RM (O:aw)(J:bw)(v1:cg)(V:Int):bn:=⟨[(2,.aq (aR O),E6),(3,.aq (aU J),E6),(5,.aq (aD v1),E6),(6,Iv V,E6)],[]⟩
def RN (O:aw)(J:bw)(v1:cg):Unit⊕Int->jb×bn
 | .inl d=>(.ret,⟨[(4,.bool E6,E6)],[]⟩)| .inr d=>(.exit 0,⟨[(2,.aq (aR O),E6),(3,.aq (aU J),E6),(5,.aq (aD v1),E6),(6,Iv d,E6),(14,.bool E6,E6)],[]⟩)
theorem j0b (O:aw)(J:bw)(v1:cg)(V:Int)(r)(h:BJ O J v1 V=En r):jy pr RO (RM O J v1) (RN O J v1) V r:=by
 unfold BJ at h
 repeat' first|(replace h:=qb h;obtain⟨d,g,h⟩:=h;with_reducible first|replace g:=zdv g|skip)|(replace h:=qc h;rcases h with⟨g,h⟩|⟨g,h⟩)
 all_goals (cases h<;>((first|refine qu ?_|refine jz ?_);simp only[go_sem,seval,RO,RM,jq,RN, *]<;>rfl))
theorem jxr (O:aw)(J:bw)(v1:cg){V d}(h:bq (BJ O J v1) V=En d):X pr (.loop RO) (RM O J v1 V)=En (RN O J v1 d):=z8 (j0b O J v1) h
def f263 (O:aw)(J:bw):Option Bool:=
 qa (f157 O J) fun v1=>
 qa (bq (BJ O J v1) 0) fun d21=>match d21 with
  | .inl d23=>
   En E6
  | .inr d24=>
   En Ha
theorem zfq {O J r}(h:f263 O J=En r):ae pr (X pr) 263 [aR O,aU J]=En (.bool r,E6):=by
 unfold f263 at h;refine zg Es ?_
 repeat' first|(replace h:=qb h;obtain⟨d,g,h⟩:=h;with_reducible first|replace g:=RH g|(replace g:=jxr O J _ g;rcases d with d|d<;>dsimp only[RM,RN,zr]at g h)|skip)|(replace h:=qc h;rcases h with⟨g,h⟩|⟨g,h⟩)
 all_goals (cases h<;>(simp only[go_sem,seval,Es, *];exact⟨_,rfl⟩))
def BH (J:bw)(v1:cg)(V:(ak aj)×Int×Bool):Option (((ak aj)×Int×Bool)⊕(((ak aj)×Bool×Int))):=
 cond (decide (V.2.1<((v1.aS.getD []).length:Int)))
  (qa (qm (v1.aS.getD []) V.2.1) fun v22=>
  qa (f158 J v22) fun v24=>
  cond v24
   (En (.inl (V.1,qd .i64 (V.2.1+1),V.2.2)))
   (cond V.2.2
    (qa (bC V.1 [v22.k]) fun v28=>
    En (.inl (v28,qd .i64 (V.2.1+1),Ha)))
    (cond V.1.isNone
     (qa (bC V.1 [v22.k]) fun v31=>
     En (.inl (v31,qd .i64 (V.2.1+1),Ha)))
     (Hb))))
  (En (.inr (V.1,V.2.2,V.2.1)))
def RP (J:bw)(v1:cg)(V:(ak aj)×Int×Bool):bn:=⟨[(3,.aq (aU J),E6),(5,.aq (aD v1),E6),(6,sl 1 jf V.1,V.2.2),(7,Iv V.2.1,E6)],[]⟩
def RQ (J:bw)(v1:cg)(d:((ak aj)×Bool×Int)):jb×bn:=(.exit 0,⟨[(3,.aq (aU J),E6),(5,.aq (aD v1),E6),(6,sl 1 jf d.1,d.2.1),(7,Iv d.2.2,E6),(15,.bool E6,E6)],[]⟩)
theorem j5t (J:bw)(v1:cg)(V:(ak aj)×Int×Bool)(r)(h:BH J v1 V=En r):jy pr RR (RP J v1) (RQ J v1) V r:=by
 unfold BH at h
 repeat' first|(replace h:=qb h;obtain⟨d,g,h⟩:=h;with_reducible first|replace g:=zhn g|replace g:=F5 g|skip)|(replace h:=qc h;rcases h with⟨g,h⟩|⟨g,h⟩)
 all_goals (cases h<;>((first|refine qu ?_|refine jz ?_);simp only[go_sem,seval,RR,RP,jq,RQ, *]<;>rfl))
theorem j7d (J:bw)(v1:cg){V d}(h:bq (BH J v1) V=En d):X pr (.loop RR) (RP J v1 V)=En (RQ J v1 d):=z8 (j5t J v1) h
def f85 (O:aw)(J:bw):Option ((ak aj)×Bool):=
 qa (f157 O J) fun v1=>
 qa (bq (BH J v1) (Hb,0,E6)) fun d33=>
 En (d33.1,d33.2.1)
theorem W85 {O J r}(h:f85 O J=En r):ae pr (X pr) 85 [aR O,aU J]=En (sl 1 jf r.1,r.2):=by
 unfold f85 at h;refine yq c85 ?_
 repeat' first|(replace h:=qb h;obtain⟨d,g,h⟩:=h;with_reducible first|replace g:=RH g|(replace g:=j7d J _ g;dsimp only[RP,RQ,zr]at g h)|skip)|(replace h:=qc h;rcases h with⟨g,h⟩|⟨g,h⟩)
 all_goals (cases h<;>(simp only[go_sem,seval,c85, *];exact⟨_,rfl⟩))
def yO (O:aw)(J:bw)(V:Int):Option (Int⊕(Unit⊕Int)):=
 cond (decide (V<((J.uses.getD []).length:Int)))
  (qa (qm (J.uses.getD []) V) fun v28=>
  qa (f80 O v28.k) fun v30=>
  qa (qm (O.az.getD []) v30) fun ig=>
  cond ig.held
   (En (.inr (.inl ())))
   (En (.inl (qd .i64 (V+1)))))
  (En (.inr (.inr V)))
def RS (O:aw)(J:bw)(V:Int):bn:=⟨[(2,.aq (aR O),E6),(3,.aq (.agg [.str J.name,.str J.product,Iv J.version,sl 2 bA J.uses,sl 3 jc J.results,.str J.partner,.bool E6,Iv J.au]),E6),(5,Iv V,E6)],[]⟩
def RT (O:aw)(J:bw):Unit⊕Int->jb×bn
 | .inl d=>(.ret,⟨[(4,Iv 34,E6)],[]⟩)| .inr d=>(.exit 0,⟨[(2,.aq (aR O),E6),(3,.aq (.agg [.str J.name,.str J.product,Iv J.version,sl 2 bA J.uses,sl 3 jc J.results,.str J.partner,.bool E6,Iv J.au]),E6),(5,Iv d,E6),(27,.bool E6,E6)],[]⟩)
theorem j2c (O:aw)(J:bw)(V:Int)(r)(h:yO O J V=En r):jy pr RU (RS O J) (RT O J) V r:=by
 unfold yO at h
 repeat' first|(replace h:=qb h;obtain⟨d,g,h⟩:=h;with_reducible first|replace g:=Lk g|skip)|(replace h:=qc h;rcases h with⟨g,h⟩|⟨g,h⟩)
 all_goals (cases h<;>((first|refine qu ?_|refine jz ?_);simp only[go_sem,seval,RU,RS,jq,RT, *]<;>rfl))
theorem j09 (O:aw)(J:bw){V d}(h:bq (yO O J) V=En d):X pr (.loop RU) (RS O J V)=En (RT O J d):=z8 (j2c O J) h
def f224 (O:aw)(J:bw):Option Int:=
 cond J.ax
  (En 21)
  (qa (f223 O (⟨J.name,J.product,J.version,J.uses,J.results,J.partner,E6,J.au⟩)) fun v2=>
  cond (decide (J.version=v2))
   (qa (f263 O (⟨J.name,J.product,J.version,J.uses,J.results,J.partner,E6,J.au⟩)) fun v5=>
   cond v5
    (qa (f85 O (⟨J.name,J.product,J.version,J.uses,J.results,J.partner,E6,J.au⟩)) fun v8=>
    cond (decide (0<((v8.1.getD []).length:Int)))
     (En 31)
     (qa (bq (yO O J) 0) fun d35=>match d35 with
      | .inl d37=>
       En 34
      | .inr d38=>
       En 0))
    (En 20))
   (En 32))
theorem zji {O J r}(h:f224 O J=En r):ae pr (X pr) 224 [.agg [.int .i64 O.day,sl 5 je O.az,sl 4 qv O.ah,sl 8 bE O.units],.agg [.str J.name,.str J.product,.int .i64 J.version,sl 2 bA J.uses,sl 3 jc J.results,.str J.partner,.bool J.ax,.int .i64 J.au]]=En (.int .i64 r,E6):=by
 unfold f224 at h;refine zg Et ?_
 repeat' first|(replace h:=qb h;obtain⟨d,g,h⟩:=h;with_reducible first|replace g:=j21 g|replace g:=zfq g|replace g:=W85 g|(replace g:=j09 O J g;rcases d with d|d<;>dsimp only[RS,RT,zr]at g h)|skip)|(replace h:=qc h;rcases h with⟨g,h⟩|⟨g,h⟩)
 all_goals (cases h<;>(simp only[go_sem,seval,Et, *];exact⟨_,rfl⟩))
end Go.Z
namespace Go.Z
open Go Go.Abs Go.W
def f151 (O:Int)(J:Int)(a2:Int):Option Bool:=
 cond (decide (O<J))
  (En Ha)
  (En (decide (a2<O)))
theorem jk5 {O J a2 r}(h:f151 O J a2=En r):ae pr (X pr) 151 [Iv O,Iv J,Iv a2]=En (.bool r,E6):=by
 unfold f151 at h;refine zg Eu ?_
 repeat' first|(replace h:=qc h;rcases h with⟨g,h⟩|⟨g,h⟩)
 all_goals (cases h<;>(simp only[go_sem,seval,Eu, *];exact⟨_,rfl⟩))
end Go.Z
namespace Go.Z
open Go Go.Abs Go.W
def f145 (O:Int)(J:aw)(a2:aj):Option Bool:=
 qa (qm (J.az.getD []) O) fun v1=>
 En (decide (v1.name=a2))
theorem zg7 (hp:qf){O J a2 r}(h:f145 O J a2=En r):ai pr (X pr) 145 [Iv O,.aq (aR J),.aq (.str a2)] hp=En (.bool r,E6,hp):=by
 unfold f145 at h;obtain⟨v1,I,h⟩:=qb h;have Q:decide (v1.name=a2)=r:=En.inj h;subst Q;rw[qg (show pr.br 145=En Ev from rfl) (by simp)];simp only[go_sem,seval,Ev,jm I]<;>rfl
def JF (O:Int)(av:aw)(bY:aj)(V:Int):Option (Int⊕(Int⊕Int)):=
 cond (decide (V<O))
  (qa (f145 V av bY) fun v10=>
  cond v10
   (En (.inr (.inl V)))
   (En (.inl (qd .i64 (V+1)))))
  (En (.inr (.inr V)))
def RV (O:Int)(av:aw)(bY:aj)(V:Int):bn:=⟨[(1,.fn (.func 145) [] [.aq (aR av),.aq (.str bY)],E6),(5,Iv (-1),E6),(7,Iv O,E6),(8,Iv V,E6)],[]⟩
def RW (O:Int)(av:aw)(bY:aj):Int⊕Int->jb×bn
 | .inl d=>(.exit 0,⟨[(5,Iv d,E6)],[]⟩)| .inr d=>(.exit 0,⟨[(1,.fn (.func 145) [] [.aq (aR av),.aq (.str bY)],E6),(5,Iv (-1),E6),(7,Iv O,E6),(8,Iv d,E6),(9,.bool E6,E6)],[]⟩)
theorem ju3 (O:Int)(av:aw)(bY:aj)(V:Int)(r)(h:JF O av bY V=En r):jy pr vS (RV O av bY) (RW O av bY) V r:=by
 unfold JF at h
 repeat' first|(replace h:=qb h;obtain⟨d,g,h⟩:=h;with_reducible first|replace g:=zg7 [] g|skip)|(replace h:=qc h;rcases h with⟨g,h⟩|⟨g,h⟩)
 all_goals (cases h<;>((first|refine qu ?_|refine jz ?_);simp only[go_sem,seval,vS,RV,RW, *]<;>rfl))
theorem js0 (O:Int)(av:aw)(bY:aj){V d}(h:bq (JF O av bY) V=En d):X pr (.loop vS) (RV O av bY V)=En (RW O av bY d):=z8 (ju3 O av bY) h
def JE (O:Int)(av:aw)(bY:aj):Option Int:=
 qa (bq (JF O av bY) 0) fun d13=>match d13 with
  | .inl d15=>
   En d15
  | .inr d16=>
   En (-1)
theorem j4s {O av bY r}(h:JE O av bY=En r):ae pr (X pr) 144 [Iv O,.fn (.func 145) [] [.aq (aR av),.aq (.str bY)]]=En (Iv r,E6):=by
 unfold JE at h;refine zg oG ?_
 repeat' first|(replace h:=qb h;obtain⟨d,g,h⟩:=h;with_reducible first|(replace g:=js0 O av bY g;rcases d with d|d<;>dsimp only[RV,RW,zr]at g h)|skip)|(replace h:=qc h;rcases h with⟨g,h⟩|⟨g,h⟩)
 all_goals (cases h<;>(simp only[go_sem,seval,oG, *];exact⟨_,rfl⟩))
def f58 (O:aw)(J:aj):Option Int:=
 qa (JE ((O.az.getD []).length:Int) O J) fun v1=>
 En v1
theorem CV {O J r}(h:f58 O J=En r):ae pr (X pr) 58 [aR O,.str J]=En (Iv r,E6):=by
 unfold f58 at h;refine zg c58 ?_
 repeat' first|(replace h:=qb h;obtain⟨d,g,h⟩:=h;with_reducible first|replace g:=j4s g|skip)|(replace h:=qc h;rcases h with⟨g,h⟩|⟨g,h⟩)
 all_goals (cases h<;>(simp only[go_sem,seval,c58, *];exact⟨_,rfl⟩))
def f166 (O:Int)(J:aw)(a2:aj):Option Bool:=
 qa (qm (J.ah.getD []) O) fun v1=>
 En (decide (v1.name=a2))
theorem zje (hp:qf){O J a2 r}(h:f166 O J a2=En r):ai pr (X pr) 166 [Iv O,.aq (aR J),.aq (.str a2)] hp=En (.bool r,E6,hp):=by
 unfold f166 at h;obtain⟨v1,I,h⟩:=qb h;have Q:decide (v1.name=a2)=r:=En.inj h;subst Q;rw[qg (show pr.br 166=En Ew from rfl) (by simp)];simp only[go_sem,seval,Ew,jm I]<;>rfl
def JH (O:Int)(av:aw)(bY:aj)(V:Int):Option (Int⊕(Int⊕Int)):=
 cond (decide (V<O))
  (qa (f166 V av bY) fun v10=>
  cond v10
   (En (.inr (.inl V)))
   (En (.inl (qd .i64 (V+1)))))
  (En (.inr (.inr V)))
def RX (O:Int)(av:aw)(bY:aj)(V:Int):bn:=⟨[(1,.fn (.func 166) [] [.aq (aR av),.aq (.str bY)],E6),(5,Iv (-1),E6),(7,Iv O,E6),(8,Iv V,E6)],[]⟩
def RY (O:Int)(av:aw)(bY:aj):Int⊕Int->jb×bn
 | .inl d=>(.exit 0,⟨[(5,Iv d,E6)],[]⟩)| .inr d=>(.exit 0,⟨[(1,.fn (.func 166) [] [.aq (aR av),.aq (.str bY)],E6),(5,Iv (-1),E6),(7,Iv O,E6),(8,Iv d,E6),(9,.bool E6,E6)],[]⟩)
theorem ju0 (O:Int)(av:aw)(bY:aj)(V:Int)(r)(h:JH O av bY V=En r):jy pr vS (RX O av bY) (RY O av bY) V r:=by
 unfold JH at h
 repeat' first|(replace h:=qb h;obtain⟨d,g,h⟩:=h;with_reducible first|replace g:=zje [] g|skip)|(replace h:=qc h;rcases h with⟨g,h⟩|⟨g,h⟩)
 all_goals (cases h<;>((first|refine qu ?_|refine jz ?_);simp only[go_sem,seval,vS,RX,RY, *]<;>rfl))
theorem jt6 (O:Int)(av:aw)(bY:aj){V d}(h:bq (JH O av bY) V=En d):X pr (.loop vS) (RX O av bY V)=En (RY O av bY d):=z8 (ju0 O av bY) h
def JG (O:Int)(av:aw)(bY:aj):Option Int:=
 qa (bq (JH O av bY) 0) fun d13=>match d13 with
  | .inl d15=>
   En d15
  | .inr d16=>
   En (-1)
theorem j45 {O av bY r}(h:JG O av bY=En r):ae pr (X pr) 144 [Iv O,.fn (.func 166) [] [.aq (aR av),.aq (.str bY)]]=En (Iv r,E6):=by
 unfold JG at h;refine zg oG ?_
 repeat' first|(replace h:=qb h;obtain⟨d,g,h⟩:=h;with_reducible first|(replace g:=jt6 O av bY g;rcases d with d|d<;>dsimp only[RX,RY,zr]at g h)|skip)|(replace h:=qc h;rcases h with⟨g,h⟩|⟨g,h⟩)
 all_goals (cases h<;>(simp only[go_sem,seval,oG, *];exact⟨_,rfl⟩))
def f95 (O:aw)(J:aj):Option Int:=
 qa (JG ((O.ah.getD []).length:Int) O J) fun v1=>
 En v1
theorem rZ {O J r}(h:f95 O J=En r):ae pr (X pr) 95 [aR O,.str J]=En (Iv r,E6):=by
 unfold f95 at h;refine zg c95 ?_
 repeat' first|(replace h:=qb h;obtain⟨d,g,h⟩:=h;with_reducible first|replace g:=j45 g|skip)|(replace h:=qc h;rcases h with⟨g,h⟩|⟨g,h⟩)
 all_goals (cases h<;>(simp only[go_sem,seval,c95, *];exact⟨_,rfl⟩))
def f150 (O:Int)(J:aw)(a2:aj):Option Bool:=
 qa (qm (J.units.getD []) O) fun v1=>
 En (decide (v1.name=a2))
theorem zkn (hp:qf){O J a2 r}(h:f150 O J a2=En r):ai pr (X pr) 150 [Iv O,.aq (aR J),.aq (.str a2)] hp=En (.bool r,E6,hp):=by
 unfold f150 at h;obtain⟨v1,I,h⟩:=qb h;have Q:decide (v1.name=a2)=r:=En.inj h;subst Q;rw[qg (show pr.br 150=En Ey from rfl) (by simp)];simp only[go_sem,seval,Ey,jm I]<;>rfl
def JJ (O:Int)(av:aw)(bY:aj)(V:Int):Option (Int⊕(Int⊕Int)):=
 cond (decide (V<O))
  (qa (f150 V av bY) fun v10=>
  cond v10
   (En (.inr (.inl V)))
   (En (.inl (qd .i64 (V+1)))))
  (En (.inr (.inr V)))
def RZ (O:Int)(av:aw)(bY:aj)(V:Int):bn:=⟨[(1,.fn (.func 150) [] [.aq (aR av),.aq (.str bY)],E6),(5,Iv (-1),E6),(7,Iv O,E6),(8,Iv V,E6)],[]⟩
def R0 (O:Int)(av:aw)(bY:aj):Int⊕Int->jb×bn
 | .inl d=>(.exit 0,⟨[(5,Iv d,E6)],[]⟩)| .inr d=>(.exit 0,⟨[(1,.fn (.func 150) [] [.aq (aR av),.aq (.str bY)],E6),(5,Iv (-1),E6),(7,Iv O,E6),(8,Iv d,E6),(9,.bool E6,E6)],[]⟩)
theorem jrr (O:Int)(av:aw)(bY:aj)(V:Int)(r)(h:JJ O av bY V=En r):jy pr vS (RZ O av bY) (R0 O av bY) V r:=by
 unfold JJ at h
 repeat' first|(replace h:=qb h;obtain⟨d,g,h⟩:=h;with_reducible first|replace g:=zkn [] g|skip)|(replace h:=qc h;rcases h with⟨g,h⟩|⟨g,h⟩)
 all_goals (cases h<;>((first|refine qu ?_|refine jz ?_);simp only[go_sem,seval,vS,RZ,R0, *]<;>rfl))
theorem jtu (O:Int)(av:aw)(bY:aj){V d}(h:bq (JJ O av bY) V=En d):X pr (.loop vS) (RZ O av bY V)=En (R0 O av bY d):=z8 (jrr O av bY) h
def JI (O:Int)(av:aw)(bY:aj):Option Int:=
 qa (bq (JJ O av bY) 0) fun d13=>match d13 with
  | .inl d15=>
   En d15
  | .inr d16=>
   En (-1)
theorem j42 {O av bY r}(h:JI O av bY=En r):ae pr (X pr) 144 [Iv O,.fn (.func 150) [] [.aq (aR av),.aq (.str bY)]]=En (Iv r,E6):=by
 unfold JI at h;refine zg oG ?_
 repeat' first|(replace h:=qb h;obtain⟨d,g,h⟩:=h;with_reducible first|(replace g:=jtu O av bY g;rcases d with d|d<;>dsimp only[RZ,R0,zr]at g h)|skip)|(replace h:=qc h;rcases h with⟨g,h⟩|⟨g,h⟩)
 all_goals (cases h<;>(simp only[go_sem,seval,oG, *];exact⟨_,rfl⟩))
def f69 (O:aw)(J:aj):Option Int:=
 qa (JI ((O.units.getD []).length:Int) O J) fun v1=>
 En v1
theorem tP {O J r}(h:f69 O J=En r):ae pr (X pr) 69 [aR O,.str J]=En (Iv r,E6):=by
 unfold f69 at h;refine zg c69 ?_
 repeat' first|(replace h:=qb h;obtain⟨d,g,h⟩:=h;with_reducible first|replace g:=j42 g|skip)|(replace h:=qc h;rcases h with⟨g,h⟩|⟨g,h⟩)
 all_goals (cases h<;>(simp only[go_sem,seval,c69, *];exact⟨_,rfl⟩))
def f104 (O:aw)(J:Int)(a2:aj):Option Bool:=
 cond (decide (J=108))
  (qa (f58 O a2) fun v2=>
  En (decide (0<=v2)))
  (cond (decide (J=112))
   (qa (f95 O a2) fun v5=>
   En (decide (0<=v5)))
   (cond (decide (J=117))
    (qa (f69 O a2) fun v8=>
    En (decide (0<=v8)))
    (En Ha)))
theorem jyu {O J a2 r}(h:f104 O J a2=En r):ae pr (X pr) 104 [aR O,.int .i32 J,.str a2]=En (.bool r,E6):=by
 unfold f104 at h;refine zg jF ?_
 repeat' first|(replace h:=qb h;obtain⟨d,g,h⟩:=h;with_reducible first|replace g:=CV g|replace g:=rZ g|replace g:=tP g|skip)|(replace h:=qc h;rcases h with⟨g,h⟩|⟨g,h⟩)
 all_goals (cases h<;>(simp only[go_sem,seval,jF, *];exact⟨_,rfl⟩))
def f96 (O:bp):Option Int:=
 En ((O.bm.getD []).length:Int)
theorem Zi {O r}(h:f96 O=En r):ae pr (X pr) 96 [aP O]=En (Iv r,E6):=by
 unfold f96 at h;have Q:((O.bm.getD []).length:Int)=r:=En.inj h;subst Q
 have this:∃hh,ai pr (X pr) 96 [aP O] []=En (Lv O.bm,E6,hh):=by
  rw[qg (show pr.br 96=En c96 from rfl) (by simp)];simp only[go_sem,seval,c96];exact⟨_,rfl⟩
 obtain⟨hh,this⟩:=this;exact jr rfl this (by first|rfl|simp only[go_sem,seval]) (by first|rfl|simp only[go_sem,seval])
def f198 (O:aw)(J:bw):Option Int:=
 qa (f95 O J.product) fun v1=>
 qa (qm (O.ah.getD []) v1) fun v3=>
 qa (f96 v3) fun v5=>
 En v5
theorem jzx {O J r}(h:f198 O J=En r):ae pr (X pr) 198 [aR O,aU J]=En (Iv r,E6):=by
 unfold f198 at h;refine zg Ez ?_
 repeat' first|(replace h:=qb h;obtain⟨d,g,h⟩:=h;with_reducible first|replace g:=rZ g|replace g:=Zi g|skip)|(replace h:=qc h;rcases h with⟨g,h⟩|⟨g,h⟩)
 all_goals (cases h<;>(simp only[go_sem,seval,Ez,jq, *];exact⟨_,rfl⟩))
def f161 (O:aw)(J:bw):Option cg:=
 qa (f95 O J.product) fun v1=>
 qa (qm (O.ah.getD []) v1) fun v3=>
 qa (qm (v3.bm.getD []) (qd .i64 (J.version-1))) fun v5=>
 En v5
theorem QR {O J r}(h:f161 O J=En r):ae pr (X pr) 161 [aR O,aU J]=En (aD r,E6):=by
 unfold f161 at h;refine zg EA ?_
 repeat' first|(replace h:=qb h;obtain⟨d,g,h⟩:=h;with_reducible first|replace g:=rZ g|skip)|(replace h:=qc h;rcases h with⟨g,h⟩|⟨g,h⟩)
 all_goals (cases h<;>(simp only[go_sem,seval,EA,jq, *];exact⟨_,rfl⟩))
def BF (O:bw)(J:jg)(V:Int×aj×Int×Int):Option ((Int×aj×Int×Int)⊕((Int×aj×Int×Int))):=
 cond (decide (V.1<((O.results.getD []).length:Int)))
  (qa (qm (O.results.getD []) V.1) fun v12=>
  cond (decide (v12.k=J.k))
   (cond (decide (v12.a=O.version))
    (En (.inl (qd .i64 (V.1+1),v12.k,v12.a,v12.b)))
    (En (.inl (qd .i64 (V.1+1),V.2.1,V.2.2.1,V.2.2.2))))
   (En (.inl (qd .i64 (V.1+1),V.2.1,V.2.2.1,V.2.2.2))))
  (En (.inr (V.1,V.2.1,V.2.2.1,V.2.2.2)))
def R1 (O:bw)(J:jg)(V:Int×aj×Int×Int):bn:=⟨[(2,.aq (aU O),E6),(3,.aq (aT J),E6),(5,.ptr 0 0,E6),(10,sl 3 jc O.results,E6),(11,Lv O.results,E6),(12,Iv V.1,E6)],[.cells [(.str V.2.1,E6),(Iv V.2.2.1,E6),(Iv V.2.2.2,E6)]]⟩
def R3 (O:bw)(J:jg)(d:(Int×aj×Int×Int)):jb×bn:=(.exit 0,⟨[(2,.aq (aU O),E6),(3,.aq (aT J),E6),(5,.ptr 0 0,E6),(10,sl 3 jc O.results,E6),(11,Lv O.results,E6),(12,Iv d.1,E6),(13,.bool E6,E6)],[.cells [(.str d.2.1,E6),(Iv d.2.2.1,E6),(Iv d.2.2.2,E6)]]⟩)
theorem j1c (O:bw)(J:jg)(V:Int×aj×Int×Int)(r)(h:BF O J V=En r):jy pr R4 (R1 O J) (R3 O J) V r:=by
 unfold BF at h
 repeat' first|(replace h:=qb h;obtain⟨d,g,h⟩:=h)|(replace h:=qc h;rcases h with⟨g,h⟩|⟨g,h⟩)
 all_goals (cases h<;>((first|refine qu ?_|refine jz ?_);simp only[go_sem,seval,R4,R1,jq,R3, *]<;>rfl))
theorem jyq (O:bw)(J:jg){V d}(h:bq (BF O J) V=En d):X pr (.loop R4) (R1 O J V)=En (R3 O J d):=z8 (j1c O J) h
def f163 (O:bw)(J:jg):Option Bool:=
 qa (bq (BF O J) (0,[],(-1),0)) fun d16=>
 cond (decide (d16.2.1=[])&&decide (d16.2.2.1=(-1))&&decide (d16.2.2.2=0))
  (En E6)
  (cond (decide (J.a<=d16.2.2.2))
   (En (decide (d16.2.2.2<=J.b)))
   (En E6))
theorem zjd {O J r}(h:f163 O J=En r):ae pr (X pr) 163 [aU O,aT J]=En (.bool r,E6):=by
 unfold f163 at h;refine zg EB ?_
 repeat' first|(replace h:=qb h;obtain⟨d,g,h⟩:=h;with_reducible first|(replace g:=jyq O J g;dsimp only[R1,R3,zr]at g h)|skip)|(replace h:=qc h;rcases h with⟨g,h⟩|⟨g,h⟩)
 all_goals (cases h<;>(simp only[go_sem,seval,EB, *];exact⟨_,rfl⟩))
def f162 (O:jg)(J:bw):Option Bool:=
 qa (f163 J O) fun v1=>
 En (!v1)
theorem zfz (hp:qf){O J r}(h:f162 O J=En r):ai pr (X pr) 162 [aT O,.aq (aU J)] hp=En (.bool r,E6,hp):=by
 unfold f162 at h;obtain⟨v1,I,h⟩:=qb h;have gE:ae pr (X pr) 163 [aU J,aT O]=En (.bool v1,E6):=zjd I;have Q:(!v1)=r:=En.inj h;subst Q;rw[qg (show pr.br 162=En EC from rfl) (by simp)];simp only[go_sem,seval,EC,gE]<;>rfl
def JK (O:ak jg)(av:bw)(V:(ak jg)×Int×Bool):Option (((ak jg)×Int×Bool)⊕(((ak jg)×Bool×Int))):=
 cond (decide (V.2.1<((O.getD []).length:Int)))
  (qa (qm (O.getD []) V.2.1) fun v20=>
  qa (f162 v20 av) fun v22=>
  cond v22
   (cond V.2.2
    (qa (bC V.1 [v20]) fun v26=>
    En (.inl (v26,qd .i64 (V.2.1+1),Ha)))
    (cond V.1.isNone
     (qa (bC V.1 [v20]) fun eu=>
     En (.inl (eu,qd .i64 (V.2.1+1),Ha)))
     (Hb)))
   (En (.inl (V.1,qd .i64 (V.2.1+1),V.2.2))))
  (En (.inr (V.1,V.2.2,V.2.1)))
def R5 (O:ak jg)(av:bw)(V:(ak jg)×Int×Bool):bn:=⟨[(1,.fn (.func 162) [] [.aq (aU av)],E6),(5,sl 3 jc V.1,V.2.2),(8,sl 3 jc O,E6),(9,Lv O,E6),(10,Iv V.2.1,E6)],[]⟩
def R6 (O:ak jg)(av:bw)(d:((ak jg)×Bool×Int)):jb×bn:=(.exit 0,⟨[(1,.fn (.func 162) [] [.aq (aU av)],E6),(5,sl 3 jc d.1,d.2.1),(8,sl 3 jc O,E6),(9,Lv O,E6),(10,Iv d.2.2,E6),(11,.bool E6,E6)],[]⟩)
theorem jyd (O:ak jg)(av:bw)(V:(ak jg)×Int×Bool)(r)(h:JK O av V=En r):jy pr R7 (R5 O av) (R6 O av) V r:=by
 unfold JK at h
 repeat' first|(replace h:=qb h;obtain⟨d,g,h⟩:=h;with_reducible first|replace g:=zfz [] g|replace g:=F4 g|skip)|(replace h:=qc h;rcases h with⟨g,h⟩|⟨g,h⟩)
 all_goals (cases h<;>((first|refine qu ?_|refine jz ?_);simp only[go_sem,seval,R7,R5,jq,R6, *]<;>rfl))
theorem j2v (O:ak jg)(av:bw){V d}(h:bq (JK O av) V=En d):X pr (.loop R7) (R5 O av V)=En (R6 O av d):=z8 (jyd O av) h
def f160 (O:ak jg)(av:bw):Option ((ak jg)×Bool):=
 qa (bq (JK O av) (Hb,0,E6)) fun d31=>
 En (d31.1,d31.2.1)
theorem zes {O av r}(h:f160 O av=En r):ae pr (X pr) 160 [sl 3 jc O,.fn (.func 162) [] [.aq (aU av)]]=En (sl 3 jc r.1,r.2):=by
 unfold f160 at h;refine yq ED ?_
 repeat' first|(replace h:=qb h;obtain⟨d,g,h⟩:=h;with_reducible first|(replace g:=j2v O av g;dsimp only[R5,R6,zr]at g h)|skip)|(replace h:=qc h;rcases h with⟨g,h⟩|⟨g,h⟩)
 all_goals (cases h<;>(simp only[go_sem,seval,ED, *];exact⟨_,rfl⟩))
def f165 (O:jg):Option aj:=
 En O.k
theorem zdl (hp:qf){O r}(h:f165 O=En r):ai pr (X pr) 165 [aT O] hp=En (.str r,E6,hp):=by
 unfold f165 at h;have Q:O.k=r:=En.inj h;subst Q;rw[qg (show pr.br 165=En EE from rfl) (by simp)];simp only[go_sem,seval,EE]<;>rfl
def JL (O:ak jg)(V:(ak aj)×Int×Bool):Option (((ak aj)×Int×Bool)⊕(((ak aj)×Bool×Int))):=
 cond (decide (V.2.1<((O.getD []).length:Int)))
  (qa (qm (O.getD []) V.2.1) fun eT=>
  qa (f165 eT) fun v20=>
  cond V.2.2
   (qa (bC V.1 [v20]) fun v23=>
   En (.inl (v23,qd .i64 (V.2.1+1),Ha)))
   (cond V.1.isNone
    (qa (bC V.1 [v20]) fun v26=>
    En (.inl (v26,qd .i64 (V.2.1+1),Ha)))
    (Hb)))
  (En (.inr (V.1,V.2.2,V.2.1)))
def R8 (O:ak jg)(V:(ak aj)×Int×Bool):bn:=⟨[(1,.fn (.func 165) [] [],E6),(5,sl 1 jf V.1,V.2.2),(8,sl 3 jc O,E6),(9,Lv O,E6),(10,Iv V.2.1,E6)],[]⟩
def R9 (O:ak jg)(d:((ak aj)×Bool×Int)):jb×bn:=(.exit 0,⟨[(1,.fn (.func 165) [] [],E6),(5,sl 1 jf d.1,d.2.1),(8,sl 3 jc O,E6),(9,Lv O,E6),(10,Iv d.2.2,E6),(11,.bool E6,E6)],[]⟩)
theorem j0p (O:ak jg)(V:(ak aj)×Int×Bool)(r)(h:JL O V=En r):jy pr Sb (R8 O) (R9 O) V r:=by
 unfold JL at h
 repeat' first|(replace h:=qb h;obtain⟨d,g,h⟩:=h;with_reducible first|replace g:=zdl [] g|replace g:=F5 g|skip)|(replace h:=qc h;rcases h with⟨g,h⟩|⟨g,h⟩)
 all_goals (cases h<;>((first|refine qu ?_|refine jz ?_);simp only[go_sem,seval,Sb,R8,jq,R9, *]<;>rfl))
theorem jwo (O:ak jg){V d}(h:bq (JL O) V=En d):X pr (.loop Sb) (R8 O V)=En (R9 O d):=z8 (j0p O) h
def f164 (O:ak jg):Option ((ak aj)×Bool):=
 qa (bq (JL O) (Hb,0,E6)) fun d28=>
 En (d28.1,d28.2.1)
theorem zi1 {O r}(h:f164 O=En r):ae pr (X pr) 164 [sl 3 jc O,.fn (.func 165) [] []]=En (sl 1 jf r.1,r.2):=by
 unfold f164 at h;refine yq EF ?_
 repeat' first|(replace h:=qb h;obtain⟨d,g,h⟩:=h;with_reducible first|(replace g:=jwo O g;dsimp only[R8,R9,zr]at g h)|skip)|(replace h:=qc h;rcases h with⟨g,h⟩|⟨g,h⟩)
 all_goals (cases h<;>(simp only[go_sem,seval,EF, *];exact⟨_,rfl⟩))
def f91 (O:aw)(J:bw):Option ((ak aj)×Bool):=
 qa (f161 O J) fun v1=>
 qa (f160 v1.aS J) fun v3=>
 qa (f164 v3.1) fun v5=>
 En (v5.1,v5.2)
theorem W91 {O J r}(h:f91 O J=En r):ae pr (X pr) 91 [aR O,aU J]=En (sl 1 jf r.1,r.2):=by
 unfold f91 at h;refine yq c91 ?_
 repeat' first|(replace h:=qb h;obtain⟨d,g,h⟩:=h;with_reducible first|replace g:=QR g|replace g:=zes g|replace g:=zi1 g|skip)|(replace h:=qc h;rcases h with⟨g,h⟩|⟨g,h⟩)
 all_goals (cases h<;>(simp only[go_sem,seval,c91, *];exact⟨_,rfl⟩))
def f148 (O:bD):Option aj:=
 En O.k
theorem zce (hp:qf){O r}(h:f148 O=En r):ai pr (X pr) 148 [aN O] hp=En (.str r,E6,hp):=by
 unfold f148 at h;have Q:O.k=r:=En.inj h;subst Q;rw[qg (show pr.br 148=En EG from rfl) (by simp)];simp only[go_sem,seval,EG]<;>rfl
def J9 (O:ak bD)(V:(ak aj)×Int×Bool):Option (((ak aj)×Int×Bool)⊕(((ak aj)×Bool×Int))):=
 cond (decide (V.2.1<((O.getD []).length:Int)))
  (qa (qm (O.getD []) V.2.1) fun eT=>
  qa (f148 eT) fun v20=>
  cond V.2.2
   (qa (bC V.1 [v20]) fun v23=>
   En (.inl (v23,qd .i64 (V.2.1+1),Ha)))
   (cond V.1.isNone
    (qa (bC V.1 [v20]) fun v26=>
    En (.inl (v26,qd .i64 (V.2.1+1),Ha)))
    (Hb)))
  (En (.inr (V.1,V.2.2,V.2.1)))
def Sc (O:ak bD)(V:(ak aj)×Int×Bool):bn:=⟨[(1,.fn (.func 148) [] [],E6),(5,sl 1 jf V.1,V.2.2),(8,sl 2 bA O,E6),(9,Lv O,E6),(10,Iv V.2.1,E6)],[]⟩
def Sd (O:ak bD)(d:((ak aj)×Bool×Int)):jb×bn:=(.exit 0,⟨[(1,.fn (.func 148) [] [],E6),(5,sl 1 jf d.1,d.2.1),(8,sl 2 bA O,E6),(9,Lv O,E6),(10,Iv d.2.2,E6),(11,.bool E6,E6)],[]⟩)
theorem jzi (O:ak bD)(V:(ak aj)×Int×Bool)(r)(h:J9 O V=En r):jy pr Se (Sc O) (Sd O) V r:=by
 unfold J9 at h
 repeat' first|(replace h:=qb h;obtain⟨d,g,h⟩:=h;with_reducible first|replace g:=zce [] g|replace g:=F5 g|skip)|(replace h:=qc h;rcases h with⟨g,h⟩|⟨g,h⟩)
 all_goals (cases h<;>((first|refine qu ?_|refine jz ?_);simp only[go_sem,seval,Se,Sc,jq,Sd, *]<;>rfl))
theorem jy7 (O:ak bD){V d}(h:bq (J9 O) V=En d):X pr (.loop Se) (Sc O V)=En (Sd O d):=z8 (jzi O) h
def f147 (O:ak bD):Option ((ak aj)×Bool):=
 qa (bq (J9 O) (Hb,0,E6)) fun d28=>
 En (d28.1,d28.2.1)
theorem zej {O r}(h:f147 O=En r):ae pr (X pr) 147 [sl 2 bA O,.fn (.func 148) [] []]=En (sl 1 jf r.1,r.2):=by
 unfold f147 at h;refine yq EH ?_
 repeat' first|(replace h:=qb h;obtain⟨d,g,h⟩:=h;with_reducible first|(replace g:=jy7 O g;dsimp only[Sc,Sd,zr]at g h)|skip)|(replace h:=qc h;rcases h with⟨g,h⟩|⟨g,h⟩)
 all_goals (cases h<;>(simp only[go_sem,seval,EH, *];exact⟨_,rfl⟩))
def f61 (O:bw):Option ((ak aj)×Bool):=
 qa (f147 O.uses) fun v1=>
 En (v1.1,v1.2)
theorem W61 {O r}(h:f61 O=En r):ae pr (X pr) 61 [aU O]=En (sl 1 jf r.1,r.2):=by
 unfold f61 at h;refine yq c61 ?_
 repeat' first|(replace h:=qb h;obtain⟨d,g,h⟩:=h;with_reducible first|replace g:=zej g|skip)|(replace h:=qc h;rcases h with⟨g,h⟩|⟨g,h⟩)
 all_goals (cases h<;>(simp only[go_sem,seval,c61, *];exact⟨_,rfl⟩))
def f159 (O:bw)(J:aj):Option Bool:=
 qa (f61 O) fun v1=>
 qa (f63 v1.1 J) fun v3=>
 En v3
theorem zfw (hp:qf){O J r}(h:f159 O J=En r):ai pr (X pr) 159 [aU O,.aq (.str J)] hp=En (.bool r,E6,hp):=by
 unfold f159 at h;rw[qg (show pr.br 159=En EI from rfl) (by simp)]
 repeat' first|(replace h:=qb h;obtain⟨d,g,h⟩:=h;with_reducible first|replace g:=W61 g|replace g:=Py g|skip)|(replace h:=qc h;rcases h with⟨g,h⟩|⟨g,h⟩)
 all_goals (cases h<;>(simp only[go_sem,seval,EI, *]<;>rfl))
def Ka (O:ak bw)(av:aj)(V:(ak bw)×Int×Bool):Option (((ak bw)×Int×Bool)⊕(((ak bw)×Bool×Int))):=
 cond (decide (V.2.1<((O.getD []).length:Int)))
  (qa (qm (O.getD []) V.2.1) fun v20=>
  qa (f159 v20 av) fun v22=>
  cond v22
   (cond V.2.2
    (qa (bC V.1 [v20]) fun v26=>
    En (.inl (v26,qd .i64 (V.2.1+1),Ha)))
    (cond V.1.isNone
     (qa (bC V.1 [v20]) fun eu=>
     En (.inl (eu,qd .i64 (V.2.1+1),Ha)))
     (Hb)))
   (En (.inl (V.1,qd .i64 (V.2.1+1),V.2.2))))
  (En (.inr (V.1,V.2.2,V.2.1)))
def Sf (O:ak bw)(av:aj)(V:(ak bw)×Int×Bool):bn:=⟨[(1,.fn (.func 159) [] [.aq (.str av)],E6),(5,sl 8 bE V.1,V.2.2),(8,sl 8 bE O,E6),(9,Lv O,E6),(10,Iv V.2.1,E6)],[]⟩
def Sg (O:ak bw)(av:aj)(d:((ak bw)×Bool×Int)):jb×bn:=(.exit 0,⟨[(1,.fn (.func 159) [] [.aq (.str av)],E6),(5,sl 8 bE d.1,d.2.1),(8,sl 8 bE O,E6),(9,Lv O,E6),(10,Iv d.2.2,E6),(11,.bool E6,E6)],[]⟩)
theorem j5k (O:ak bw)(av:aj)(V:(ak bw)×Int×Bool)(r)(h:Ka O av V=En r):jy pr CF (Sf O av) (Sg O av) V r:=by
 unfold Ka at h
 repeat' first|(replace h:=qb h;obtain⟨d,g,h⟩:=h;with_reducible first|replace g:=zfw [] g|replace g:=Ou g|skip)|(replace h:=qc h;rcases h with⟨g,h⟩|⟨g,h⟩)
 all_goals (cases h<;>((first|refine qu ?_|refine jz ?_);simp only[go_sem,seval,CF,Sf,jq,Sg, *]<;>rfl))
theorem j7f (O:ak bw)(av:aj){V d}(h:bq (Ka O av) V=En d):X pr (.loop CF) (Sf O av V)=En (Sg O av d):=z8 (j5k O av) h
def f64 (O:ak bw)(av:aj):Option ((ak bw)×Bool):=
 qa (bq (Ka O av) (Hb,0,E6)) fun d31=>
 En (d31.1,d31.2.1)
theorem W64 {O av r}(h:f64 O av=En r):ae pr (X pr) 64 [sl 8 bE O,.fn (.func 159) [] [.aq (.str av)]]=En (sl 8 bE r.1,r.2):=by
 unfold f64 at h;refine yq KL ?_
 repeat' first|(replace h:=qb h;obtain⟨d,g,h⟩:=h;with_reducible first|(replace g:=j7f O av g;dsimp only[Sf,Sg,zr]at g h)|skip)|(replace h:=qc h;rcases h with⟨g,h⟩|⟨g,h⟩)
 all_goals (cases h<;>(simp only[go_sem,seval,KL, *];exact⟨_,rfl⟩))
def f67 (O:bw):Option aj:=
 En O.name
theorem W67 (hp:qf){O r}(h:f67 O=En r):ai pr (X pr) 67 [aU O] hp=En (.str r,E6,hp):=by
 unfold f67 at h;have Q:O.name=r:=En.inj h;subst Q;rw[qg (show pr.br 67=En c67 from rfl) (by simp)];simp only[go_sem,seval,c67]<;>rfl
def Gn (O:ak bw)(V:(ak aj)×Int×Bool):Option (((ak aj)×Int×Bool)⊕(((ak aj)×Bool×Int))):=
 cond (decide (V.2.1<((O.getD []).length:Int)))
  (qa (qm (O.getD []) V.2.1) fun eT=>
  qa (f67 eT) fun v20=>
  cond V.2.2
   (qa (bC V.1 [v20]) fun v23=>
   En (.inl (v23,qd .i64 (V.2.1+1),Ha)))
   (cond V.1.isNone
    (qa (bC V.1 [v20]) fun v26=>
    En (.inl (v26,qd .i64 (V.2.1+1),Ha)))
    (Hb)))
  (En (.inr (V.1,V.2.2,V.2.1)))
def Sh (O:ak bw)(V:(ak aj)×Int×Bool):bn:=⟨[(1,.fn (.func 67) [] [],E6),(5,sl 1 jf V.1,V.2.2),(8,sl 8 bE O,E6),(9,Lv O,E6),(10,Iv V.2.1,E6)],[]⟩
def Si (O:ak bw)(d:((ak aj)×Bool×Int)):jb×bn:=(.exit 0,⟨[(1,.fn (.func 67) [] [],E6),(5,sl 1 jf d.1,d.2.1),(8,sl 8 bE O,E6),(9,Lv O,E6),(10,Iv d.2.2,E6),(11,.bool E6,E6)],[]⟩)
theorem j9d (O:ak bw)(V:(ak aj)×Int×Bool)(r)(h:Gn O V=En r):jy pr Sj (Sh O) (Si O) V r:=by
 unfold Gn at h
 repeat' first|(replace h:=qb h;obtain⟨d,g,h⟩:=h;with_reducible first|replace g:=W67 [] g|replace g:=F5 g|skip)|(replace h:=qc h;rcases h with⟨g,h⟩|⟨g,h⟩)
 all_goals (cases h<;>((first|refine qu ?_|refine jz ?_);simp only[go_sem,seval,Sj,Sh,jq,Si, *]<;>rfl))
theorem j6b (O:ak bw){V d}(h:bq (Gn O) V=En d):X pr (.loop Sj) (Sh O V)=En (Si O d):=z8 (j9d O) h
def f65 (O:ak bw):Option ((ak aj)×Bool):=
 qa (bq (Gn O) (Hb,0,E6)) fun d28=>
 En (d28.1,d28.2.1)
theorem W65 {O r}(h:f65 O=En r):ae pr (X pr) 65 [sl 8 bE O,.fn (.func 67) [] []]=En (sl 1 jf r.1,r.2):=by
 unfold f65 at h;refine yq c65 ?_
 repeat' first|(replace h:=qb h;obtain⟨d,g,h⟩:=h;with_reducible first|(replace g:=j6b O g;dsimp only[Sh,Si,zr]at g h)|skip)|(replace h:=qc h;rcases h with⟨g,h⟩|⟨g,h⟩)
 all_goals (cases h<;>(simp only[go_sem,seval,c65, *];exact⟨_,rfl⟩))
def f89 (O:aw)(J:aj):Option ((ak aj)×Bool):=
 qa (f64 O.units J) fun v1=>
 qa (f65 v1.1) fun v3=>
 En (v3.1,v3.2)
theorem W89 {O J r}(h:f89 O J=En r):ae pr (X pr) 89 [aR O,.str J]=En (sl 1 jf r.1,r.2):=by
 unfold f89 at h;refine yq c89 ?_
 repeat' first|(replace h:=qb h;obtain⟨d,g,h⟩:=h;with_reducible first|replace g:=W64 g|replace g:=W65 g|skip)|(replace h:=qc h;rcases h with⟨g,h⟩|⟨g,h⟩)
 all_goals (cases h<;>(simp only[go_sem,seval,c89, *];exact⟨_,rfl⟩))
def zH (O:aw)(J:aj)(V:Int×Int):Option ((Int×Int)⊕((Int×Int))):=
 cond (decide (V.2<((O.az.getD []).length:Int)))
  (qa (qm (O.az.getD []) V.2) fun v12=>
  cond (decide (v12.kind=J))
   (cond v12.held
    (En (.inl (V.1,qd .i64 (V.2+1))))
    (En (.inl (qd .i64 (V.1+v12.left),qd .i64 (V.2+1)))))
   (En (.inl (V.1,qd .i64 (V.2+1)))))
  (En (.inr (V.1,V.2)))
def Sk (O:aw)(J:aj)(V:Int×Int):bn:=⟨[(1,.str J,E6),(5,Iv V.1,E6),(9,sl 5 je O.az,E6),(10,Lv O.az,E6),(11,Iv V.2,E6)],[]⟩
def Sl (O:aw)(J:aj)(d:(Int×Int)):jb×bn:=(.exit 0,⟨[(1,.str J,E6),(5,Iv d.1,E6),(9,sl 5 je O.az,E6),(10,Lv O.az,E6),(11,Iv d.2,E6),(12,.bool E6,E6)],[]⟩)
theorem j7v (O:aw)(J:aj)(V:Int×Int)(r)(h:zH O J V=En r):jy pr Sm (Sk O J) (Sl O J) V r:=by
 unfold zH at h
 repeat' first|(replace h:=qb h;obtain⟨d,g,h⟩:=h)|(replace h:=qc h;rcases h with⟨g,h⟩|⟨g,h⟩)
 all_goals (cases h<;>((first|refine qu ?_|refine jz ?_);simp only[go_sem,seval,Sm,Sk,jq,Sl, *]<;>rfl))
theorem j80 (O:aw)(J:aj){V d}(h:bq (zH O J) V=En d):X pr (.loop Sm) (Sk O J V)=En (Sl O J d):=z8 (j7v O J) h
def f93 (O:aw)(J:aj):Option Int:=
 qa (bq (zH O J) (0,0)) fun d16=>
 En d16.1
theorem W93 {O J r}(h:f93 O J=En r):ae pr (X pr) 93 [aR O,.str J]=En (Iv r,E6):=by
 unfold f93 at h;refine zg c93 ?_
 repeat' first|(replace h:=qb h;obtain⟨d,g,h⟩:=h;with_reducible first|(replace g:=j80 O J g;dsimp only[Sk,Sl,zr]at g h)|skip)|(replace h:=qc h;rcases h with⟨g,h⟩|⟨g,h⟩)
 all_goals (cases h<;>(simp only[go_sem,seval,c93, *];exact⟨_,rfl⟩))
end Go.Z
namespace Go.Z
open Go Go.Abs Go.W
def f226 (O:ak ji):Option ((ak ji)×Bool):=
 cond O.isNone
  (En (Hb,E6))
  (qa (bC (En []) (O.getD [])) fun v2=>
  En (v2,Ha))
theorem zdn {O r}(h:f226 O=En r):ae pr (X pr) 226 [sl 5 je O]=En (sl 5 je r.1,r.2):=by
 unfold f226 at h;refine yq EJ ?_
 repeat' first|(replace h:=qb h;obtain⟨d,g,h⟩:=h)|(replace h:=qc h;rcases h with⟨g,h⟩|⟨g,h⟩)
 all_goals (cases h<;>(simp only[go_sem,seval,EJ,nF, *];exact⟨_,rfl⟩))
def f227 (O:ak bp):Option ((ak bp)×Bool):=
 cond O.isNone
  (En (Hb,E6))
  (qa (bC (En []) (O.getD [])) fun v2=>
  En (v2,Ha))
theorem zjm {O r}(h:f227 O=En r):ae pr (X pr) 227 [sl 4 qv O]=En (sl 4 qv r.1,r.2):=by
 unfold f227 at h;refine yq EK ?_
 repeat' first|(replace h:=qb h;obtain⟨d,g,h⟩:=h)|(replace h:=qc h;rcases h with⟨g,h⟩|⟨g,h⟩)
 all_goals (cases h<;>(simp only[go_sem,seval,EK,nF, *];exact⟨_,rfl⟩))
def f240 (O:ak bw):Option ((ak bw)×Bool):=
 cond O.isNone
  (En (Hb,E6))
  (qa (bC (En []) (O.getD [])) fun v2=>
  En (v2,Ha))
theorem zex {O r}(h:f240 O=En r):ae pr (X pr) 240 [sl 8 bE O]=En (sl 8 bE r.1,r.2):=by
 unfold f240 at h;refine yq EL ?_
 repeat' first|(replace h:=qb h;obtain⟨d,g,h⟩:=h)|(replace h:=qc h;rcases h with⟨g,h⟩|⟨g,h⟩)
 all_goals (cases h<;>(simp only[go_sem,seval,EL,nF, *];exact⟨_,rfl⟩))
def f237 (O:ak cg):Option ((ak cg)×Bool):=
 cond O.isNone
  (En (Hb,E6))
  (qa (bC (En []) (O.getD [])) fun v2=>
  En (v2,Ha))
theorem zfr {O r}(h:f237 O=En r):ae pr (X pr) 237 [sl 2 y6 O]=En (sl 2 y6 r.1,r.2):=by
 unfold f237 at h;refine yq EM ?_
 repeat' first|(replace h:=qb h;obtain⟨d,g,h⟩:=h)|(replace h:=qc h;rcases h with⟨g,h⟩|⟨g,h⟩)
 all_goals (cases h<;>(simp only[go_sem,seval,EM,nF, *];exact⟨_,rfl⟩))
def f238 (O:ak bD):Option ((ak bD)×Bool):=
 cond O.isNone
  (En (Hb,E6))
  (qa (bC (En []) (O.getD [])) fun v2=>
  En (v2,Ha))
theorem j22 {O r}(h:f238 O=En r):ae pr (X pr) 238 [sl 2 bA O]=En (sl 2 bA r.1,r.2):=by
 unfold f238 at h;refine yq EN ?_
 repeat' first|(replace h:=qb h;obtain⟨d,g,h⟩:=h)|(replace h:=qc h;rcases h with⟨g,h⟩|⟨g,h⟩)
 all_goals (cases h<;>(simp only[go_sem,seval,EN,nF, *];exact⟨_,rfl⟩))
def f239 (O:ak jg):Option ((ak jg)×Bool):=
 cond O.isNone
  (En (Hb,E6))
  (qa (bC (En []) (O.getD [])) fun v2=>
  En (v2,Ha))
theorem jwp {O r}(h:f239 O=En r):ae pr (X pr) 239 [sl 3 jc O]=En (sl 3 jc r.1,r.2):=by
 unfold f239 at h;refine yq EO ?_
 repeat' first|(replace h:=qb h;obtain⟨d,g,h⟩:=h)|(replace h:=qc h;rcases h with⟨g,h⟩|⟨g,h⟩)
 all_goals (cases h<;>(simp only[go_sem,seval,EO,nF, *];exact⟨_,rfl⟩))
def f244 (O:ak jg):Option ((ak jg)×Bool):=
 cond O.isNone
  (En (Hb,E6))
  (qa (bC (En []) (O.getD [])) fun v2=>
  En (v2,Ha))
theorem zgx {O r}(h:f244 O=En r):ae pr (X pr) 244 [sl 3 jc O]=En (sl 3 jc r.1,r.2):=by
 unfold f244 at h;refine yq EP ?_
 repeat' first|(replace h:=qb h;obtain⟨d,g,h⟩:=h)|(replace h:=qc h;rcases h with⟨g,h⟩|⟨g,h⟩)
 all_goals (cases h<;>(simp only[go_sem,seval,EP,nF, *];exact⟨_,rfl⟩))
def f264 (O:ak bD):Option ((ak bD)×Bool):=
 cond O.isNone
  (En (Hb,E6))
  (qa (bC (En []) (O.getD [])) fun v2=>
  En (v2,Ha))
theorem zcg {O r}(h:f264 O=En r):ae pr (X pr) 264 [sl 2 bA O]=En (sl 2 bA r.1,r.2):=by
 unfold f264 at h;refine yq EQ ?_
 repeat' first|(replace h:=qb h;obtain⟨d,g,h⟩:=h)|(replace h:=qc h;rcases h with⟨g,h⟩|⟨g,h⟩)
 all_goals (cases h<;>(simp only[go_sem,seval,EQ,nF, *];exact⟨_,rfl⟩))
def f169 (O:ak ji)(J:ji):Option (ak ji):=
 qa (f226 O) fun v1=>
 cond v1.2
  (qa (bC v1.1 [J]) fun v4=>
  En v4)
  (cond v1.1.isNone
   (qa (bC v1.1 [J]) fun v7=>
   En v7)
   (Hb))
theorem zea {O J r}(h:f169 O J=En r):ae pr (X pr) 169 [sl 5 je O,aL J]=En (sl 5 je r,Ha):=by
 unfold f169 at h;refine yq ER ?_
 repeat' first|(replace h:=qb h;obtain⟨d,g,h⟩:=h;with_reducible first|replace g:=zdn g|replace g:=VL g|skip)|(replace h:=qc h;rcases h with⟨g,h⟩|⟨g,h⟩)
 all_goals (cases h<;>(simp only[go_sem,seval,ER, *];exact⟨_,rfl⟩))
def f170 (O:ak bp)(J:bp):Option (ak bp):=
 qa (f227 O) fun v1=>
 cond v1.2
  (qa (bC v1.1 [J]) fun v4=>
  En v4)
  (cond v1.1.isNone
   (qa (bC v1.1 [J]) fun v7=>
   En v7)
   (Hb))
theorem zgm {O J r}(h:f170 O J=En r):ae pr (X pr) 170 [sl 4 qv O,aP J]=En (sl 4 qv r,Ha):=by
 unfold f170 at h;refine yq ES ?_
 repeat' first|(replace h:=qb h;obtain⟨d,g,h⟩:=h;with_reducible first|replace g:=zjm g|replace g:=q88 g|skip)|(replace h:=qc h;rcases h with⟨g,h⟩|⟨g,h⟩)
 all_goals (cases h<;>(simp only[go_sem,seval,ES, *];exact⟨_,rfl⟩))
def f186 (O:ak bw)(J:bw):Option (ak bw):=
 qa (f240 O) fun v1=>
 cond v1.2
  (qa (bC v1.1 [J]) fun v4=>
  En v4)
  (cond v1.1.isNone
   (qa (bC v1.1 [J]) fun v7=>
   En v7)
   (Hb))
theorem zgy {O J r}(h:f186 O J=En r):ae pr (X pr) 186 [sl 8 bE O,aU J]=En (sl 8 bE r,Ha):=by
 unfold f186 at h;refine yq ET ?_
 repeat' first|(replace h:=qb h;obtain⟨d,g,h⟩:=h;with_reducible first|replace g:=zex g|replace g:=Ou g|skip)|(replace h:=qc h;rcases h with⟨g,h⟩|⟨g,h⟩)
 all_goals (cases h<;>(simp only[go_sem,seval,ET, *];exact⟨_,rfl⟩))
def f184 (O:ak cg)(J:cg):Option (ak cg):=
 qa (f237 O) fun v1=>
 cond v1.2
  (qa (bC v1.1 [J]) fun v4=>
  En v4)
  (cond v1.1.isNone
   (qa (bC v1.1 [J]) fun v7=>
   En v7)
   (Hb))
theorem zcp {O J r}(h:f184 O J=En r):ae pr (X pr) 184 [sl 2 y6 O,aD J]=En (sl 2 y6 r,Ha):=by
 unfold f184 at h;refine yq EU ?_
 repeat' first|(replace h:=qb h;obtain⟨d,g,h⟩:=h;with_reducible first|replace g:=zfr g|replace g:=jcn g|skip)|(replace h:=qc h;rcases h with⟨g,h⟩|⟨g,h⟩)
 all_goals (cases h<;>(simp only[go_sem,seval,EU, *];exact⟨_,rfl⟩))
def f232 (O:ak bD)(J:bD):Option (ak bD):=
 qa (f238 O) fun v1=>
 cond v1.2
  (qa (bC v1.1 [J]) fun v4=>
  En v4)
  (cond v1.1.isNone
   (qa (bC v1.1 [J]) fun v7=>
   En v7)
   (Hb))
theorem zh4 {O J r}(h:f232 O J=En r):ae pr (X pr) 232 [sl 2 bA O,aN J]=En (sl 2 bA r,Ha):=by
 unfold f232 at h;refine yq EV ?_
 repeat' first|(replace h:=qb h;obtain⟨d,g,h⟩:=h;with_reducible first|replace g:=j22 g|replace g:=BA g|skip)|(replace h:=qc h;rcases h with⟨g,h⟩|⟨g,h⟩)
 all_goals (cases h<;>(simp only[go_sem,seval,EV, *];exact⟨_,rfl⟩))
def f236 (O:ak jg)(J:jg):Option (ak jg):=
 qa (f239 O) fun v1=>
 cond v1.2
  (qa (bC v1.1 [J]) fun v4=>
  En v4)
  (cond v1.1.isNone
   (qa (bC v1.1 [J]) fun v7=>
   En v7)
   (Hb))
theorem zd9 {O J r}(h:f236 O J=En r):ae pr (X pr) 236 [sl 3 jc O,aT J]=En (sl 3 jc r,Ha):=by
 unfold f236 at h;refine yq EW ?_
 repeat' first|(replace h:=qb h;obtain⟨d,g,h⟩:=h;with_reducible first|replace g:=jwp g|replace g:=F4 g|skip)|(replace h:=qc h;rcases h with⟨g,h⟩|⟨g,h⟩)
 all_goals (cases h<;>(simp only[go_sem,seval,EW, *];exact⟨_,rfl⟩))
def f243 (O:ak bD)(J:bD):Option (ak bD):=
 qa (f264 O) fun v1=>
 cond v1.2
  (qa (bC v1.1 [J]) fun v4=>
  En v4)
  (cond v1.1.isNone
   (qa (bC v1.1 [J]) fun v7=>
   En v7)
   (Hb))
theorem zha {O J r}(h:f243 O J=En r):ae pr (X pr) 243 [sl 2 bA O,aN J]=En (sl 2 bA r,Ha):=by
 unfold f243 at h;refine yq EX ?_
 repeat' first|(replace h:=qb h;obtain⟨d,g,h⟩:=h;with_reducible first|replace g:=zcg g|replace g:=BA g|skip)|(replace h:=qc h;rcases h with⟨g,h⟩|⟨g,h⟩)
 all_goals (cases h<;>(simp only[go_sem,seval,EX, *];exact⟨_,rfl⟩))
def f197 (O:ak jg)(J:jg):Option (ak jg):=
 qa (f244 O) fun v1=>
 cond v1.2
  (qa (bC v1.1 [J]) fun v4=>
  En v4)
  (cond v1.1.isNone
   (qa (bC v1.1 [J]) fun v7=>
   En v7)
   (Hb))
theorem zeo {O J r}(h:f197 O J=En r):ae pr (X pr) 197 [sl 3 jc O,aT J]=En (sl 3 jc r,Ha):=by
 unfold f197 at h;refine yq EY ?_
 repeat' first|(replace h:=qb h;obtain⟨d,g,h⟩:=h;with_reducible first|replace g:=zgx g|replace g:=F4 g|skip)|(replace h:=qc h;rcases h with⟨g,h⟩|⟨g,h⟩)
 all_goals (cases h<;>(simp only[go_sem,seval,EY, *];exact⟨_,rfl⟩))
def f185 (O:cg):Option cg:=
 qa (f238 O.bd) fun v1=>
 qa (f239 O.aS) fun v3=>
 En (⟨v1.1,v3.1⟩)
theorem zih {O r}(h:f185 O=En r):ae pr (X pr) 185 [aD O]=En (aD r,E6):=by
 unfold f185 at h;refine zg EZ ?_
 repeat' first|(replace h:=qb h;obtain⟨d,g,h⟩:=h;with_reducible first|replace g:=j22 g|replace g:=jwp g|skip)|(replace h:=qc h;rcases h with⟨g,h⟩|⟨g,h⟩)
 all_goals (cases h<;>(simp only[go_sem,seval,EZ, *];exact⟨_,rfl⟩))
end Go.Z
namespace Go.Z
open Go Go.Abs Go.W
def f75 (O:aj):Option ti:=
 cond (decide (O=([108,111,116]:aj)))
  (En (⟨2,2,Ha⟩))
  (cond (decide (O=([112,114,111,100,117,99,116]:aj)))
   (En (⟨1,1,Ha⟩))
   (cond (decide (O=([105,115,115,117,101]:aj)))
    (En (⟨1,1,Ha⟩))
    (cond (decide (O=([117,112,100,97,116,101]:aj)))
     (En (⟨1,1,Ha⟩))
     (cond (decide (O=([104,111,108,100]:aj)))
      (En (⟨1,1,Ha⟩))
      (cond (decide (O=([102,114,101,101]:aj)))
       (En (⟨1,1,Ha⟩))
       (cond (decide (O=([115,104,105,112]:aj)))
        (En (⟨1,1,Ha⟩))
        (cond (decide (O=([99,111,109,112,108,97,105,110]:aj)))
         (En (⟨1,1,Ha⟩))
         (cond (decide (O=([110,101,101,100]:aj)))
          (En (⟨2,2,Ha⟩))
          (cond (decide (O=([117,115,101]:aj)))
           (En (⟨2,2,Ha⟩))
           (cond (decide (O=([109,101,97,115,117,114,101]:aj)))
            (En (⟨2,2,Ha⟩))
            (cond (decide (O=([116,101,115,116]:aj)))
             (En (⟨2,3,Ha⟩))
             (cond (decide (O=([98,117,105,108,100]:aj)))
              (En (⟨2,1,Ha⟩))
              (cond (decide (O=([112,97,105,114]:aj)))
               (En (⟨2,1,Ha⟩))
               (cond (decide (O=([117,110,100,111]:aj)))
                (En (⟨0,0,Ha⟩))
                (En (⟨0,0,E6⟩))))))))))))))))
theorem W75 {O r}(h:f75 O=En r):ae pr (X pr) 75 [.str O]=En (.agg [Iv r.names,Iv r.values,.bool r.known],E6):=by
 unfold f75 at h;refine zg c75 ?_
 repeat' first|(replace h:=qc h;rcases h with⟨g,h⟩|⟨g,h⟩)
 all_goals (cases h<;>(simp only[go_sem,seval,c75, *];exact⟨_,rfl⟩))
def B0 (O:GEv)(v4:ti)(V:Int):Option (Int⊕(Unit⊕Int)):=
 cond (decide (V<v4.names))
  (qa (qm (O.names.getD []) V) fun v22=>
  qa (f78 v22) fun v24=>
  cond v24
   (En (.inl (qd .i64 (V+1))))
   (En (.inr (.inl ()))))
  (En (.inr (.inr V)))
def Sn (O:GEv)(v4:ti)(V:Int):bn:=⟨[(1,.aq (aE O),E6),(3,.aq (.agg [Iv v4.names,Iv v4.values,.bool Ha]),E6),(4,Iv V,E6)],[]⟩
def So (O:GEv)(v4:ti):Unit⊕Int->jb×bn
 | .inl d=>(.ret,⟨[(2,Iv 8,E6)],[]⟩)| .inr d=>(.exit 0,⟨[(1,.aq (aE O),E6),(3,.aq (.agg [Iv v4.names,Iv v4.values,.bool Ha]),E6),(4,Iv d,E6),(32,.bool E6,E6)],[]⟩)
theorem j5u (O:GEv)(v4:ti)(V:Int)(r)(h:B0 O v4 V=En r):jy pr Sp (Sn O v4) (So O v4) V r:=by
 unfold B0 at h
 repeat' first|(replace h:=qb h;obtain⟨d,g,h⟩:=h;with_reducible first|replace g:=W78 g|skip)|(replace h:=qc h;rcases h with⟨g,h⟩|⟨g,h⟩)
 all_goals (cases h<;>((first|refine qu ?_|refine jz ?_);simp only[go_sem,seval,Sp,Sn,jq,So, *]<;>rfl))
theorem j7y (O:GEv)(v4:ti){V d}(h:bq (B0 O v4) V=En d):X pr (.loop Sp) (Sn O v4 V)=En (So O v4 d):=z8 (j5u O v4) h
def B1 (O:GEv)(v4:ti)(s1:Int):Option (Int⊕(Unit⊕Int)):=
 cond (decide (s1<v4.values))
  (qa (qm (O.values.getD []) s1) fun iV=>
  qa (f151 iV 0 999999999) fun v46=>
  cond v46
   (En (.inr (.inl ())))
   (En (.inl (qd .i64 (s1+1)))))
  (En (.inr (.inr s1)))
def Sr (O:GEv)(v4:ti)(s1:Int):bn:=⟨[(1,.aq (aE O),E6),(3,.aq (.agg [Iv v4.names,Iv v4.values,.bool Ha]),E6),(5,Iv s1,E6)],[]⟩
def Ss (O:GEv)(v4:ti):Unit⊕Int->jb×bn
 | .inl d=>(.ret,⟨[(2,Iv 3,E6)],[]⟩)| .inr d=>(.exit 2,⟨[(1,.aq (aE O),E6),(3,.aq (.agg [Iv v4.names,Iv v4.values,.bool Ha]),E6),(5,Iv d,E6),(45,.bool E6,E6)],[]⟩)
theorem j9n (O:GEv)(v4:ti)(s1:Int)(r)(h:B1 O v4 s1=En r):jy pr Sv (Sr O v4) (Ss O v4) s1 r:=by
 unfold B1 at h
 repeat' first|(replace h:=qb h;obtain⟨d,g,h⟩:=h;with_reducible first|replace g:=jk5 g|skip)|(replace h:=qc h;rcases h with⟨g,h⟩|⟨g,h⟩)
 all_goals (cases h<;>((first|refine qu ?_|refine jz ?_);simp only[go_sem,seval,Sv,Sr,jq,Ss, *]<;>rfl))
theorem j55 (O:GEv)(v4:ti){s1 d}(h:bq (B1 O v4) s1=En d):X pr (.loop Sv) (Sr O v4 s1)=En (Ss O v4 d):=z8 (j9n O v4) h
def f73 (O:GEv):Option Int:=
 qa (f151 O.number 1 1000) fun v1=>
 cond v1
  (En 3)
  (qa (f75 O.kind) fun v4=>
  cond v4.known
   (cond (decide (((O.names.getD []).length:Int)=v4.names))
    (cond (decide (((O.values.getD []).length:Int)=v4.values))
     (qa (bq (B0 O v4) 0) fun d27=>match d27 with
      | .inl d29=>
       En 8
      | .inr d30=>
       qa (bq (B1 O v4) 0) fun d49=>match d49 with
        | .inl d51=>
         En 3
        | .inr d52=>
         cond (decide (O.text=[]))
          (En 0)
          (En 1))
     (En 2))
    (En 2))
   (En 13))
theorem W73 {O r}(h:f73 O=En r):ae pr (X pr) 73 [aE O]=En (Iv r,E6):=by
 unfold f73 at h;refine zg c73 ?_
 repeat' first|(replace h:=qb h;obtain⟨d,g,h⟩:=h;with_reducible first|replace g:=jk5 g|replace g:=W75 g|(replace g:=j7y O _ g;rcases d with d|d<;>dsimp only[Sn,So,zr]at g h)|(replace g:=j55 O _ g;rcases d with d|d<;>dsimp only[Sr,Ss,zr]at g h)|skip)|(replace h:=qc h;rcases h with⟨g,h⟩|⟨g,h⟩)
 all_goals (cases h<;>(simp only[go_sem,seval,c73, *];exact⟨_,rfl⟩))
end Go.Z
end
