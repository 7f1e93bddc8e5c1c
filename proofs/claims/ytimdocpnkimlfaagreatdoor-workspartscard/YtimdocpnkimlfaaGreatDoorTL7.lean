/- Chapter 10. -/
import Derived.Test.YtimdocpnkimlfaaGreatDoorAZ
import Derived.Test.YtimdocpnkimlfaaGreatDoorEN
import Derived.Test.YtimdocpnkimlfaaGreatDoorER
set_option linter.unusedVariables false
set_option linter.unusedSimpArgs false
set_option maxRecDepth 100000
set_option maxHeartbeats 4000000
noncomputable section
open Bool renaming false→I,false_beq→Gz,not_false→G0,true_beq→G1,not_true→G2,not_not→G5
open Option renaming some→En
open List renaming getElem?_eq_getElem→Ey,getElem_mem→Gn,length_cons→Gp,length_take→Gs,length_map→Gt,take_length→Gv,length_nil→Gw
open Nat renaming le_refl→Gy
namespace Go.Z
open Go Go.Abs Go.W
theorem j6b {a0:Option (List GEv)}{a1:Int}{r}(h:f11 a0 a1=En r):qc dp (X dp) 11 [sl 5 vev a0,Iv a1]=En (.bool r,I):=oO rfl rfl (W11 h) (by first|rfl|simp only[go_sem,seval])
theorem j7w {a0:Option (List GEv)}{r}(h:f16 a0=En r):qc dp (X dp) 16 [sl 5 vev a0]=En (.aB [aR r.1,Iv r.2.1,Iv r.2.2],I):=oO rfl rfl (JU h) (by first|rfl|simp only[go_sem,seval])
theorem j1p {a0:Option (List GEv)}{a1:List UInt8}{r}(h:f27 a0 a1=En r):qc dp (X dp) 27 [sl 5 vev a0,.str a1]=En (.aB [sl 1 j9 r.1,Iv r.2],I):=oO rfl rfl (W27 h) (by first|rfl|simp only[go_sem,seval])
theorem jof {a0:Option (List GEv)}{a1:List UInt8}{r}(h:f21 a0 a1=En r):qc dp (X dp) 21 [sl 5 vev a0,.str a1]=En (.aB [sl 1 j9 r.1,Iv r.2],I):=oO rfl rfl (W21 h) (by first|rfl|simp only[go_sem,seval])
theorem job {a0:Option (List (List UInt8))}{a1:List UInt8}{r}(h:f22 a0 a1=En r):qc dp (X dp) 22 [sl 1 j9 a0,.str a1]=En (.bool r,I):=oO rfl rfl (W22 h) (by first|rfl|simp only[go_sem,seval])
theorem j84 {a0:Option (List GEv)}{a1:List UInt8}{r}(h:f28 a0 a1=En r):qc dp (X dp) 28 [sl 5 vev a0,.str a1]=En (.aB [Iv r.1,Iv r.2],I):=oO rfl rfl (W28 h) (by first|rfl|simp only[go_sem,seval])
def xy (a0:Option (List GEv))(v4:aj×Int×Int)(s0:Int×(List (List UInt8×Int))×(List (List UInt8×ay)))(cH:ay)(s1:Int×(List (List UInt8×Int))):Option ((Int×(List (List UInt8×Int)))⊕(((List (List UInt8×Int)))⊕(Int×(List (List UInt8×Int))))):=
 cond (decide (s1.1<((cH.uses.getD []).length:Int)))
  (qa (qr (cH.uses.getD []) s1.1) fun xB=>
  qa (mV s1.2 xB.k (qe .i64 ((jn (0:Int) s1.2 xB.k)+xB.n))) fun CP=>
  cond (decide (xB.n<1))
   (En (.inr (.inl CP)))
   (cond (decide (24<s1.1))
    (En (.inr (.inl CP)))
    (En (.inl (qe .i64 (s1.1+1),CP)))))
  (En (.inr (.inr (s1.1,s1.2))))
def Oa (a0:Option (List GEv))(v4:aj×Int×Int)(s0:Int×(List (List UInt8×Int))×(List (List UInt8×ay)))(cH:ay)(s1:Int×(List (List UInt8×Int))):bf:=⟨[(0,sl 5 vev a0,I),(3,.ah (aR v4.1),I),(6,.map 0,I),(7,.map 1,I),(55,sl 8 aY v4.1.units,I),(56,Lv v4.1.units,I),(57,Iv s0.1,I),(69,sl 2 bn cH.uses,I),(70,Lv cH.uses,I),(71,Iv s1.1,I)],[.map (jo jm s1.2),.map (jo aY s0.2.2)]⟩
def Ob (a0:Option (List GEv))(v4:aj×Int×Int)(s0:Int×(List (List UInt8×Int))×(List (List UInt8×ay)))(cH:ay):((List (List UInt8×Int)))⊕(Int×(List (List UInt8×Int)))→jf×bf
 | .inl d=>(.ret,⟨[(2,.bool I,I)],[.map (jo jm d),.map (jo aY s0.2.2)]⟩)
 | .inr d=>(.exit 2,⟨[(0,sl 5 vev a0,I),(3,.ah (aR v4.1),I),(6,.map 0,I),(7,.map 1,I),(55,sl 8 aY v4.1.units,I),(56,Lv v4.1.units,I),(57,Iv s0.1,I),(69,sl 2 bn cH.uses,I),(70,Lv cH.uses,I),(71,Iv d.1,I),(72,.bool I,I)],[.map (jo jm d.2),.map (jo aY s0.2.2)]⟩)
theorem zj5 (a0:Option (List GEv))(v4:aj×Int×Int)(s0:Int×(List (List UInt8×Int))×(List (List UInt8×ay)))(cH:ay)(s1:Int×(List (List UInt8×Int)))(r)(h:xy a0 v4 s0 cH s1=En r):jz dp CQ (Oa a0 v4 s0 cH) (Ob a0 v4 s0 cH) s1 r:=by
 unfold xy at h
 repeat' first|(replace h:=qb h;obtain⟨d,g,h⟩:=h;with_reducible first|replace g:=XA g|skip)|(replace h:=qd h;rcases h with⟨g,h⟩|⟨g,h⟩)
 all_goals (cases h<;>((first|refine qz ?_|refine jp ?_);simp only[go_sem,seval,CQ,Oa,jg,Nd,Ob, *]<;>rfl))
theorem zkf (a0:Option (List GEv))(v4:aj×Int×Int)(s0:Int×(List (List UInt8×Int))×(List (List UInt8×ay)))(cH:ay){s1:Int×(List (List UInt8×Int))}{d}(h:bm (xy a0 v4 s0 cH) s1=En d):X dp (.loop CQ) (Oa a0 v4 s0 cH s1)=En (Ob a0 v4 s0 cH d):=zj (zj5 a0 v4 s0 cH) h
def JZ (a0:Option (List GEv))(v4:aj×Int×Int)(s0:Int×(List (List UInt8×Int))×(List (List UInt8×ay)))(cH:ay)(v145:List (List UInt8×ay))(s1:Int×(List (List UInt8×Int))):Option ((Int×(List (List UInt8×Int)))⊕(((List (List UInt8×Int)))⊕(Int×(List (List UInt8×Int))))):=
 cond (decide (s1.1<((cH.uses.getD []).length:Int)))
  (qa (qr (cH.uses.getD []) s1.1) fun xC=>
  qa (mV s1.2 xC.k (qe .i64 ((jn (0:Int) s1.2 xC.k)+xC.n))) fun CR=>
  cond (decide (xC.n<1))
   (En (.inr (.inl CR)))
   (cond (decide (24<s1.1))
    (En (.inr (.inl CR)))
    (En (.inl (qe .i64 (s1.1+1),CR)))))
  (En (.inr (.inr (s1.1,s1.2))))
def Oc (a0:Option (List GEv))(v4:aj×Int×Int)(s0:Int×(List (List UInt8×Int))×(List (List UInt8×ay)))(cH:ay)(v145:List (List UInt8×ay))(s1:Int×(List (List UInt8×Int))):bf:=⟨[(0,sl 5 vev a0,I),(3,.ah (aR v4.1),I),(6,.map 0,I),(7,.map 1,I),(55,sl 8 aY v4.1.units,I),(56,Lv v4.1.units,I),(57,Iv s0.1,I),(69,sl 2 bn cH.uses,I),(70,Lv cH.uses,I),(71,Iv s1.1,I)],[.map (jo jm s1.2),.map (jo aY v145)]⟩
def Od (a0:Option (List GEv))(v4:aj×Int×Int)(s0:Int×(List (List UInt8×Int))×(List (List UInt8×ay)))(cH:ay)(v145:List (List UInt8×ay)):((List (List UInt8×Int)))⊕(Int×(List (List UInt8×Int)))→jf×bf
 | .inl d=>(.ret,⟨[(2,.bool I,I)],[.map (jo jm d),.map (jo aY v145)]⟩)
 | .inr d=>(.exit 2,⟨[(0,sl 5 vev a0,I),(3,.ah (aR v4.1),I),(6,.map 0,I),(7,.map 1,I),(55,sl 8 aY v4.1.units,I),(56,Lv v4.1.units,I),(57,Iv s0.1,I),(69,sl 2 bn cH.uses,I),(70,Lv cH.uses,I),(71,Iv d.1,I),(72,.bool I,I)],[.map (jo jm d.2),.map (jo aY v145)]⟩)
theorem j29 (a0:Option (List GEv))(v4:aj×Int×Int)(s0:Int×(List (List UInt8×Int))×(List (List UInt8×ay)))(cH:ay)(v145:List (List UInt8×ay))(s1:Int×(List (List UInt8×Int)))(r)(h:JZ a0 v4 s0 cH v145 s1=En r):jz dp CQ (Oc a0 v4 s0 cH v145) (Od a0 v4 s0 cH v145) s1 r:=by
 unfold JZ at h
 repeat' first|(replace h:=qb h;obtain⟨d,g,h⟩:=h;with_reducible first|replace g:=XA g|skip)|(replace h:=qd h;rcases h with⟨g,h⟩|⟨g,h⟩)
 all_goals (cases h<;>((first|refine qz ?_|refine jp ?_);simp only[go_sem,seval,CQ,Oc,jg,Nd,Od, *]<;>rfl))
theorem j7u (a0:Option (List GEv))(v4:aj×Int×Int)(s0:Int×(List (List UInt8×Int))×(List (List UInt8×ay)))(cH:ay)(v145:List (List UInt8×ay)){s1:Int×(List (List UInt8×Int))}{d}(h:bm (JZ a0 v4 s0 cH v145) s1=En d):X dp (.loop CQ) (Oc a0 v4 s0 cH v145 s1)=En (Od a0 v4 s0 cH v145 d):=zj (j29 a0 v4 s0 cH v145) h
def Aq (a0:Option (List GEv))(v4:aj×Int×Int)(s0:Int×(List (List UInt8×Int))×(List (List UInt8×ay))):Option ((Int×(List (List UInt8×Int))×(List (List UInt8×ay)))⊕(((List (List UInt8×Int))×(List (List UInt8×ay)))⊕(Int×(List (List UInt8×Int))×(List (List UInt8×ay))))):=
 cond (decide (s0.1<((v4.1.units.getD []).length:Int)))
  (qa (qr (v4.1.units.getD []) s0.1) fun cH=>
  cond (decide (cH.partner=[]))
   (qa (bm (xy a0 v4 s0 cH) (0,s0.2.1)) fun d141=>match d141 with
    | .inl d143=>
     En (.inr (.inl (d143,s0.2.2)))
    | .inr d144=>
     En (.inl (qe .i64 (s0.1+1),d144.2,s0.2.2)))
   (qa (mV s0.2.2 cH.partner cH) fun v145=>
   qa (bm (JZ a0 v4 s0 cH v145) (0,s0.2.1)) fun d167=>match d167 with
    | .inl d169=>
     En (.inr (.inl (d169,v145)))
    | .inr Cm=>
     En (.inl (qe .i64 (s0.1+1),Cm.2,v145))))
  (En (.inr (.inr (s0.1,s0.2.1,s0.2.2))))
def Oe (a0:Option (List GEv))(v4:aj×Int×Int)(s0:Int×(List (List UInt8×Int))×(List (List UInt8×ay))):bf:=⟨[(0,sl 5 vev a0,I),(3,.ah (aR v4.1),I),(6,.map 0,I),(7,.map 1,I),(55,sl 8 aY v4.1.units,I),(56,Lv v4.1.units,I),(57,Iv s0.1,I)],[.map (jo jm s0.2.1),.map (jo aY s0.2.2)]⟩
def Og (a0:Option (List GEv))(v4:aj×Int×Int):((List (List UInt8×Int))×(List (List UInt8×ay)))⊕(Int×(List (List UInt8×Int))×(List (List UInt8×ay)))→jf×bf
 | .inl d=>(.ret,⟨[(2,.bool I,I)],[.map (jo jm d.1),.map (jo aY d.2)]⟩)
 | .inr d=>(.exit 0,⟨[(0,sl 5 vev a0,I),(3,.ah (aR v4.1),I),(6,.map 0,I),(7,.map 1,I),(55,sl 8 aY v4.1.units,I),(56,Lv v4.1.units,I),(57,Iv d.1,I),(58,.bool I,I)],[.map (jo jm d.2.1),.map (jo aY d.2.2)]⟩)
theorem zei (a0:Option (List GEv))(v4:aj×Int×Int)(s0:Int×(List (List UInt8×Int))×(List (List UInt8×ay)))(r)(h:Aq a0 v4 s0=En r):jz dp Oh (Oe a0 v4) (Og a0 v4) s0 r:=by
 unfold Aq at h
 repeat' first|(replace h:=qb h;obtain⟨d,g,h⟩:=h;with_reducible first|replace g:=XD g|(replace g:=zkf a0 _ s0 _ g;rcases d with d|d<;>dsimp only[Oa,Ob,zk]at g h)|(replace g:=j7u a0 _ s0 _ _ g;rcases d with d|d<;>dsimp only[Oc,Od,zk]at g h)|skip)|(replace h:=qd h;rcases h with⟨g,h⟩|⟨g,h⟩)
 all_goals (cases h<;>((first|refine qz ?_|refine jp ?_);simp only[go_sem,seval,Oh,Oe,jg,Og, *]<;>rfl))
theorem zjp (a0:Option (List GEv))(v4:aj×Int×Int){s0:Int×(List (List UInt8×Int))×(List (List UInt8×ay))}{d}(h:bm (Aq a0 v4) s0=En d):X dp (.loop Oh) (Oe a0 v4 s0)=En (Og a0 v4 d):=zj (zei a0 v4) h
def xD (a0:Option (List GEv))(v4:aj×Int×Int)(d174:Int×(List (List UInt8×Int))×(List (List UInt8×ay)))(s2:Int×(List (List UInt8×Int)))(b6:jd)(c8:(Option (List (List UInt8)))×Int)(s3:Int):Option (Int⊕(Unit⊕Int)):=
 cond (decide (s3<((v4.1.units.getD []).length:Int)))
  (qa (qr (v4.1.units.getD []) s3) fun J0=>
  qa (f21 a0 J0.name) fun J1=>
  cond (decide (J1.2=0))
   (qa (f22 J1.1 b6.name) fun YQ=>
   qa (f22 c8.1 J0.name) fun J2=>
   cond YQ
    (cond J2
     (En (.inl (qe .i64 (s3+1))))
     (En (.inr (.inl ()))))
    (cond J2
     (En (.inr (.inl ())))
     (En (.inl (qe .i64 (s3+1))))))
   (En (.inr (.inl ()))))
  (En (.inr (.inr s3)))
def Oi (a0:Option (List GEv))(v4:aj×Int×Int)(d174:Int×(List (List UInt8×Int))×(List (List UInt8×ay)))(s2:Int×(List (List UInt8×Int)))(b6:jd)(c8:(Option (List (List UInt8)))×Int)(s3:Int):bf:=⟨[(0,sl 5 vev a0,I),(3,.ah (aR v4.1),I),(6,.map 0,I),(7,.map 1,I),(12,.map 2,I),(14,.ah (.agg [.str b6.name,.str b6.kind,Iv b6.count,Iv b6.left,.bool true]),I),(15,sl 1 j9 c8.1,I),(94,sl 5 jc v4.1.lots,I),(95,Lv v4.1.lots,I),(96,Iv s2.1,I),(137,sl 8 aY v4.1.units,I),(138,Lv v4.1.units,I),(139,Iv s3,I)],[.map (jo jm d174.2.1),.map (jo aY d174.2.2),.map (jo jm s2.2)]⟩
def Oj (a0:Option (List GEv))(v4:aj×Int×Int)(d174:Int×(List (List UInt8×Int))×(List (List UInt8×ay)))(s2:Int×(List (List UInt8×Int)))(b6:jd)(c8:(Option (List (List UInt8)))×Int):Unit⊕Int→jf×bf
 | .inl d=>(.ret,⟨[(2,.bool I,I)],[.map (jo jm d174.2.1),.map (jo aY d174.2.2),.map (jo jm s2.2)]⟩)
 | .inr d=>(.exit 6,⟨[(0,sl 5 vev a0,I),(3,.ah (aR v4.1),I),(6,.map 0,I),(7,.map 1,I),(12,.map 2,I),(14,.ah (.agg [.str b6.name,.str b6.kind,Iv b6.count,Iv b6.left,.bool true]),I),(15,sl 1 j9 c8.1,I),(94,sl 5 jc v4.1.lots,I),(95,Lv v4.1.lots,I),(96,Iv s2.1,I),(137,sl 8 aY v4.1.units,I),(138,Lv v4.1.units,I),(139,Iv d,I),(140,.bool I,I)],[.map (jo jm d174.2.1),.map (jo aY d174.2.2),.map (jo jm s2.2)]⟩)
theorem zgr (a0:Option (List GEv))(v4:aj×Int×Int)(d174:Int×(List (List UInt8×Int))×(List (List UInt8×ay)))(s2:Int×(List (List UInt8×Int)))(b6:jd)(c8:(Option (List (List UInt8)))×Int)(s3:Int)(r)(h:xD a0 v4 d174 s2 b6 c8 s3=En r):jz dp CS (Oi a0 v4 d174 s2 b6 c8) (Oj a0 v4 d174 s2 b6 c8) s3 r:=by
 unfold xD at h
 repeat' first|(replace h:=qb h;obtain⟨d,g,h⟩:=h;with_reducible first|replace g:=jof g|replace g:=job g|skip)|(replace h:=qd h;rcases h with⟨g,h⟩|⟨g,h⟩)
 all_goals (cases h<;>((first|refine qz ?_|refine jp ?_);simp only[go_sem,seval,CS,Oi,jg,G1,Gz,G2,G0,G5,Oj, *]<;>rfl))
theorem zjz (a0:Option (List GEv))(v4:aj×Int×Int)(d174:Int×(List (List UInt8×Int))×(List (List UInt8×ay)))(s2:Int×(List (List UInt8×Int)))(b6:jd)(c8:(Option (List (List UInt8)))×Int){s3:Int}{d}(h:bm (xD a0 v4 d174 s2 b6 c8) s3=En d):X dp (.loop CS) (Oi a0 v4 d174 s2 b6 c8 s3)=En (Oj a0 v4 d174 s2 b6 c8 d):=zj (zgr a0 v4 d174 s2 b6 c8) h
def J3 (a0:Option (List GEv))(v4:aj×Int×Int)(d174:Int×(List (List UInt8×Int))×(List (List UInt8×ay)))(s2:Int×(List (List UInt8×Int)))(b6:jd)(c8:(Option (List (List UInt8)))×Int)(eU:List (List UInt8×Int))(s3:Int):Option (Int⊕(Unit⊕Int)):=
 cond (decide (s3<((v4.1.units.getD []).length:Int)))
  (qa (qr (v4.1.units.getD []) s3) fun J4=>
  qa (f21 a0 J4.name) fun J5=>
  cond (decide (J5.2=0))
   (qa (f22 J5.1 b6.name) fun YR=>
   qa (f22 c8.1 J4.name) fun J6=>
   cond YR
    (cond J6
     (En (.inl (qe .i64 (s3+1))))
     (En (.inr (.inl ()))))
    (cond J6
     (En (.inr (.inl ())))
     (En (.inl (qe .i64 (s3+1))))))
   (En (.inr (.inl ()))))
  (En (.inr (.inr s3)))
def Ok (a0:Option (List GEv))(v4:aj×Int×Int)(d174:Int×(List (List UInt8×Int))×(List (List UInt8×ay)))(s2:Int×(List (List UInt8×Int)))(b6:jd)(c8:(Option (List (List UInt8)))×Int)(eU:List (List UInt8×Int))(s3:Int):bf:=⟨[(0,sl 5 vev a0,I),(3,.ah (aR v4.1),I),(6,.map 0,I),(7,.map 1,I),(12,.map 2,I),(14,.ah (.agg [.str b6.name,.str b6.kind,Iv b6.count,Iv b6.left,.bool I]),I),(15,sl 1 j9 c8.1,I),(94,sl 5 jc v4.1.lots,I),(95,Lv v4.1.lots,I),(96,Iv s2.1,I),(137,sl 8 aY v4.1.units,I),(138,Lv v4.1.units,I),(139,Iv s3,I)],[.map (jo jm d174.2.1),.map (jo aY d174.2.2),.map (jo jm eU)]⟩
def Ol (a0:Option (List GEv))(v4:aj×Int×Int)(d174:Int×(List (List UInt8×Int))×(List (List UInt8×ay)))(s2:Int×(List (List UInt8×Int)))(b6:jd)(c8:(Option (List (List UInt8)))×Int)(eU:List (List UInt8×Int)):Unit⊕Int→jf×bf
 | .inl d=>(.ret,⟨[(2,.bool I,I)],[.map (jo jm d174.2.1),.map (jo aY d174.2.2),.map (jo jm eU)]⟩)
 | .inr d=>(.exit 6,⟨[(0,sl 5 vev a0,I),(3,.ah (aR v4.1),I),(6,.map 0,I),(7,.map 1,I),(12,.map 2,I),(14,.ah (.agg [.str b6.name,.str b6.kind,Iv b6.count,Iv b6.left,.bool I]),I),(15,sl 1 j9 c8.1,I),(94,sl 5 jc v4.1.lots,I),(95,Lv v4.1.lots,I),(96,Iv s2.1,I),(137,sl 8 aY v4.1.units,I),(138,Lv v4.1.units,I),(139,Iv d,I),(140,.bool I,I)],[.map (jo jm d174.2.1),.map (jo aY d174.2.2),.map (jo jm eU)]⟩)
theorem j5e (a0:Option (List GEv))(v4:aj×Int×Int)(d174:Int×(List (List UInt8×Int))×(List (List UInt8×ay)))(s2:Int×(List (List UInt8×Int)))(b6:jd)(c8:(Option (List (List UInt8)))×Int)(eU:List (List UInt8×Int))(s3:Int)(r)(h:J3 a0 v4 d174 s2 b6 c8 eU s3=En r):jz dp CS (Ok a0 v4 d174 s2 b6 c8 eU) (Ol a0 v4 d174 s2 b6 c8 eU) s3 r:=by
 unfold J3 at h
 repeat' first|(replace h:=qb h;obtain⟨d,g,h⟩:=h;with_reducible first|replace g:=jof g|replace g:=job g|skip)|(replace h:=qd h;rcases h with⟨g,h⟩|⟨g,h⟩)
 all_goals (cases h<;>((first|refine qz ?_|refine jp ?_);simp only[go_sem,seval,CS,Ok,jg,G1,Gz,G2,G0,G5,Ol, *]<;>rfl))
theorem j2g (a0:Option (List GEv))(v4:aj×Int×Int)(d174:Int×(List (List UInt8×Int))×(List (List UInt8×ay)))(s2:Int×(List (List UInt8×Int)))(b6:jd)(c8:(Option (List (List UInt8)))×Int)(eU:List (List UInt8×Int)){s3:Int}{d}(h:bm (J3 a0 v4 d174 s2 b6 c8 eU) s3=En d):X dp (.loop CS) (Ok a0 v4 d174 s2 b6 c8 eU s3)=En (Ol a0 v4 d174 s2 b6 c8 eU d):=zj (j5e a0 v4 d174 s2 b6 c8 eU) h
def Ar (a0:Option (List GEv))(v4:aj×Int×Int)(d174:Int×(List (List UInt8×Int))×(List (List UInt8×ay)))(s2:Int×(List (List UInt8×Int))):Option ((Int×(List (List UInt8×Int)))⊕(((List (List UInt8×Int)))⊕(Int×(List (List UInt8×Int))))):=
 cond (decide (s2.1<((v4.1.lots.getD []).length:Int)))
  (qa (qr (v4.1.lots.getD []) s2.1) fun b6=>
  qa (f27 a0 b6.name) fun c8=>
  cond (decide (c8.2=0))
   (cond (decide (b6.left<0))
    (En (.inr (.inl s2.2)))
    (cond (decide ((qe .i64 (b6.left+(jn (0:Int) d174.2.1 b6.name)))=b6.count))
     (cond b6.held
      (qa (bm (xD a0 v4 d174 s2 b6 c8) 0) fun YS=>match YS with
       | .inl d419=>
        En (.inr (.inl s2.2))
       | .inr d420=>
        En (.inl (qe .i64 (s2.1+1),s2.2)))
      (qa (mV s2.2 b6.kind (qe .i64 ((jn (0:Int) s2.2 b6.kind)+b6.left))) fun eU=>
      qa (bm (J3 a0 v4 d174 s2 b6 c8 eU) 0) fun YT=>match YT with
       | .inl d464=>
        En (.inr (.inl eU))
       | .inr d465=>
        En (.inl (qe .i64 (s2.1+1),eU))))
     (En (.inr (.inl s2.2)))))
   (En (.inr (.inl s2.2))))
  (En (.inr (.inr (s2.1,s2.2))))
def Om (a0:Option (List GEv))(v4:aj×Int×Int)(d174:Int×(List (List UInt8×Int))×(List (List UInt8×ay)))(s2:Int×(List (List UInt8×Int))):bf:=⟨[(0,sl 5 vev a0,I),(3,.ah (aR v4.1),I),(6,.map 0,I),(7,.map 1,I),(12,.map 2,I),(94,sl 5 jc v4.1.lots,I),(95,Lv v4.1.lots,I),(96,Iv s2.1,I)],[.map (jo jm d174.2.1),.map (jo aY d174.2.2),.map (jo jm s2.2)]⟩
def Oo (a0:Option (List GEv))(v4:aj×Int×Int)(d174:Int×(List (List UInt8×Int))×(List (List UInt8×ay))):((List (List UInt8×Int)))⊕(Int×(List (List UInt8×Int)))→jf×bf
 | .inl d=>(.ret,⟨[(2,.bool I,I)],[.map (jo jm d174.2.1),.map (jo aY d174.2.2),.map (jo jm d)]⟩)
 | .inr d=>(.exit 4,⟨[(0,sl 5 vev a0,I),(3,.ah (aR v4.1),I),(6,.map 0,I),(7,.map 1,I),(12,.map 2,I),(94,sl 5 jc v4.1.lots,I),(95,Lv v4.1.lots,I),(96,Iv d.1,I),(97,.bool I,I)],[.map (jo jm d174.2.1),.map (jo aY d174.2.2),.map (jo jm d.2)]⟩)
theorem zkt (a0:Option (List GEv))(v4:aj×Int×Int)(d174:Int×(List (List UInt8×Int))×(List (List UInt8×ay)))(s2:Int×(List (List UInt8×Int)))(r)(h:Ar a0 v4 d174 s2=En r):jz dp Oq (Om a0 v4 d174) (Oo a0 v4 d174) s2 r:=by
 unfold Ar at h
 repeat' first|(replace h:=qb h;obtain⟨d,g,h⟩:=h;with_reducible first|replace g:=j1p g|replace g:=XA g|(replace g:=zjz a0 _ _ s2 _ _ g;rcases d with d|d<;>dsimp only[Oi,Oj,zk]at g h)|(replace g:=j2g a0 _ _ s2 _ _ _ g;rcases d with d|d<;>dsimp only[Ok,Ol,zk]at g h)|skip)|(replace h:=qd h;rcases h with⟨g,h⟩|⟨g,h⟩)
 all_goals (cases h<;>((first|refine qz ?_|refine jp ?_);simp only[go_sem,seval,Oq,Om,jg,Oo,Nd, *]<;>rfl))
theorem zdi (a0:Option (List GEv))(v4:aj×Int×Int)(d174:Int×(List (List UInt8×Int))×(List (List UInt8×ay))){s2:Int×(List (List UInt8×Int))}{d}(h:bm (Ar a0 v4 d174) s2=En d):X dp (.loop Oq) (Om a0 v4 d174 s2)=En (Oo a0 v4 d174 d):=zj (zkt a0 v4 d174) h
def As (a0:Option (List GEv))(v4:aj×Int×Int)(d174:Int×(List (List UInt8×Int))×(List (List UInt8×ay)))(da:Int×(List (List UInt8×Int)))(s4:Int):Option (Int⊕(Unit⊕Int)):=
 cond (decide (s4<((v4.1.lots.getD []).length:Int)))
  (qa (qr (v4.1.lots.getD []) s4) fun J7=>
  qa (f28 a0 J7.kind) fun J8=>
  cond (decide (J8.2=0))
   (cond (decide (J8.1=(jn (0:Int) da.2 J7.kind)))
    (En (.inl (qe .i64 (s4+1))))
    (En (.inr (.inl ()))))
   (En (.inr (.inl ()))))
  (En (.inr (.inr s4)))
def Ot (a0:Option (List GEv))(v4:aj×Int×Int)(d174:Int×(List (List UInt8×Int))×(List (List UInt8×ay)))(da:Int×(List (List UInt8×Int)))(s4:Int):bf:=⟨[(0,sl 5 vev a0,I),(3,.ah (aR v4.1),I),(7,.map 1,I),(12,.map 2,I),(166,sl 5 jc v4.1.lots,I),(167,Lv v4.1.lots,I),(168,Iv s4,I)],[.map (jo jm d174.2.1),.map (jo aY d174.2.2),.map (jo jm da.2)]⟩
def Ou (a0:Option (List GEv))(v4:aj×Int×Int)(d174:Int×(List (List UInt8×Int))×(List (List UInt8×ay)))(da:Int×(List (List UInt8×Int))):Unit⊕Int→jf×bf
 | .inl d=>(.ret,⟨[(2,.bool I,I)],[.map (jo jm d174.2.1),.map (jo aY d174.2.2),.map (jo jm da.2)]⟩)
 | .inr d=>(.exit 8,⟨[(0,sl 5 vev a0,I),(3,.ah (aR v4.1),I),(7,.map 1,I),(12,.map 2,I),(166,sl 5 jc v4.1.lots,I),(167,Lv v4.1.lots,I),(168,Iv d,I),(169,.bool I,I)],[.map (jo jm d174.2.1),.map (jo aY d174.2.2),.map (jo jm da.2)]⟩)
theorem zds (a0:Option (List GEv))(v4:aj×Int×Int)(d174:Int×(List (List UInt8×Int))×(List (List UInt8×ay)))(da:Int×(List (List UInt8×Int)))(s4:Int)(r)(h:As a0 v4 d174 da s4=En r):jz dp Ov (Ot a0 v4 d174 da) (Ou a0 v4 d174 da) s4 r:=by
 unfold As at h
 repeat' first|(replace h:=qb h;obtain⟨d,g,h⟩:=h;with_reducible first|replace g:=j84 g|skip)|(replace h:=qd h;rcases h with⟨g,h⟩|⟨g,h⟩)
 all_goals (cases h<;>((first|refine qz ?_|refine jp ?_);simp only[go_sem,seval,Ov,Ot,jg,Nd,Ou, *]<;>rfl))
theorem zis (a0:Option (List GEv))(v4:aj×Int×Int)(d174:Int×(List (List UInt8×Int))×(List (List UInt8×ay)))(da:Int×(List (List UInt8×Int))){s4:Int}{d}(h:bm (As a0 v4 d174 da) s4=En d):X dp (.loop Ov) (Ot a0 v4 d174 da s4)=En (Ou a0 v4 d174 da d):=zj (zds a0 v4 d174 da) h
def Au (v4:aj×Int×Int)(d174:Int×(List (List UInt8×Int))×(List (List UInt8×ay)))(da:Int×(List (List UInt8×Int)))(s5:Int):Option (Int⊕(Unit⊕Int)):=
 cond (decide (s5<((v4.1.units.getD []).length:Int)))
  (qa (qr (v4.1.units.getD []) s5) fun sD=>
  cond (decide (((jn dl d174.2.2 sD.name).name)=sD.partner))
   (cond (decide (((jn dl d174.2.2 sD.name).name)=[]))
    (En (.inl (qe .i64 (s5+1))))
    (cond (decide (((jn dl d174.2.2 sD.name).product)=sD.product))
     (En (.inl (qe .i64 (s5+1))))
     (En (.inr (.inl ())))))
   (En (.inr (.inl ()))))
  (En (.inr (.inr s5)))
def Ow (v4:aj×Int×Int)(d174:Int×(List (List UInt8×Int))×(List (List UInt8×ay)))(da:Int×(List (List UInt8×Int)))(s5:Int):bf:=⟨[(7,.map 1,I),(191,sl 8 aY v4.1.units,I),(192,Lv v4.1.units,I),(193,Iv s5,I)],[.map (jo jm d174.2.1),.map (jo aY d174.2.2),.map (jo jm da.2)]⟩
def Ox (v4:aj×Int×Int)(d174:Int×(List (List UInt8×Int))×(List (List UInt8×ay)))(da:Int×(List (List UInt8×Int))):Unit⊕Int→jf×bf
 | .inl d=>(.ret,⟨[(2,.bool I,I)],[.map (jo jm d174.2.1),.map (jo aY d174.2.2),.map (jo jm da.2)]⟩)
 | .inr d=>(.exit 10,⟨[(7,.map 1,I),(191,sl 8 aY v4.1.units,I),(192,Lv v4.1.units,I),(193,Iv d,I),(194,.bool I,I)],[.map (jo jm d174.2.1),.map (jo aY d174.2.2),.map (jo jm da.2)]⟩)
theorem zkx (v4:aj×Int×Int)(d174:Int×(List (List UInt8×Int))×(List (List UInt8×ay)))(da:Int×(List (List UInt8×Int)))(s5:Int)(r)(h:Au v4 d174 da s5=En r):jz dp Oy (Ow v4 d174 da) (Ox v4 d174 da) s5 r:=by
 unfold Au at h
 repeat' first|(replace h:=qb h;obtain⟨d,g,h⟩:=h)|(replace h:=qd h;rcases h with⟨g,h⟩|⟨g,h⟩)
 all_goals (cases h<;>((first|refine qz ?_|refine jp ?_);simp only[go_sem,seval,Oy,Ow,jg,XB,Ox, *]<;>rfl))
theorem zex (v4:aj×Int×Int)(d174:Int×(List (List UInt8×Int))×(List (List UInt8×ay)))(da:Int×(List (List UInt8×Int))){s5:Int}{d}(h:bm (Au v4 d174 da) s5=En d):X dp (.loop Oy) (Ow v4 d174 da s5)=En (Ox v4 d174 da d):=zj (zkx v4 d174 da) h
def f7 (a0:Option (List GEv)):Option Bool:=
 qa (f11 a0 24) fun v1=>
 cond v1
  (qa (f16 a0) fun v4=>
  cond (decide (v4.2.2=0))
   (cond (decide (24<((v4.1.units.getD []).length:Int)))
    (En I)
    (cond (decide (24<((v4.1.lots.getD []).length:Int)))
     (En I)
     (qa (bm (Aq a0 v4) (0,[],[])) fun d171=>match d171 with
      | .inl d173=>
       En I
      | .inr d174=>
       qa (bm (Ar a0 v4 d174) (0,[])) fun YU=>match YU with
        | .inl d468=>
         En I
        | .inr da=>
         qa (bm (As a0 v4 d174 da) 0) fun YV=>match YV with
          | .inl d493=>
           En I
          | .inr d494=>
           qa (bm (Au v4 d174 da) 0) fun YW=>match YW with
            | .inl d515=>
             En I
            | .inr d516=>
             qa (Ge) fun dZ=>
             En dZ)))
   (En I))
  (qa (Ge) fun CF=>
  En CF)
theorem W7 {a0:Option (List GEv)}{r}(h:f7 a0=En r):qc dp (X dp) 7 [sl 5 vev a0]=En (.bool r,I):=by
 unfold f7 at h
 refine zh c7 ?_
 repeat' first|(replace h:=qb h;obtain⟨d,g,h⟩:=h;with_reducible first|replace g:=j6b g|replace g:=j7w g|replace g:=Q8 g|(replace g:=zjp a0 _ g;rcases d with d|d<;>dsimp only[Oe,Og,zk]at g h)|(replace g:=zdi a0 _ _ g;rcases d with d|d<;>dsimp only[Om,Oo,zk]at g h)|(replace g:=zis a0 _ _ _ g;rcases d with d|d<;>dsimp only[Ot,Ou,zk]at g h)|(replace g:=zex _ _ _ g;rcases d with d|d<;>dsimp only[Ow,Ox,zk]at g h)|skip)|(replace h:=qd h;rcases h with⟨g,h⟩|⟨g,h⟩)
 all_goals (cases h<;>(simp only[go_sem,seval,c7,qv6 (h0:=0) (r:=0),q0v (h0:=1) (r:=0),qv6 (h0:=2) (r:=0), *];exact⟨_,rfl⟩))
end Go.Z
namespace Go.Z
open Go Go.Abs Go.W
theorem YX {α:Type}{M:List (List UInt8×α)}{k:List UInt8}{v:α}(h:M.length≤1000000):mV M k v=En (yg M k v):=by
 unfold mV;rw[if_pos (by omega)]
theorem YY:∀ {l:List bq} {M:List (List UInt8×Int)},(nT M l).length≤M.length+l.length
 | [],M=>Gy _
 |x::l,M=>by
  show(nT (yg M x.k (qe .i64 (jn (0:Int) M x.k+x.n))) l).length≤_
  have h1:=YY (l:=l) (M:=yg M x.k (qe .i64 (jn (0:Int) M x.k+x.n)))
  have h2:=Ij (l:=M) (k:=x.k) (v:=qe .i64 (jn (0:Int) M x.k+x.n))
  rw[Gp];omega
theorem qv2:∀ {l:List aW} {M:List (List UInt8×Int)},(∀u∈l,u.uses.length≤24)→(ng M l).length≤M.length+24*l.length
 | [],M,_=>Gy _
 |u::l,M,h=>by
  show(ng (nT M u.uses) l).length≤_
  have h1:=qv2 (l:=l) (M:=nT M u.uses) fun v hv=>h v (List.mem_cons_of_mem _ hv)
  have h2:=YY (l:=u.uses) (M:=M)
  have h3:=h u (List.mem_cons_self ..)
  rw[Gp];omega
theorem qow:∀ {l:List ay} {M:List (List UInt8×ay)},(y9 M l).length≤M.length+l.length
 | [],M=>Gy _
 |u::l,M=>by
  show(y9 (if u.partner=[]then M else yg M u.partner u) l).length≤_
  have h1:=qow (l:=l) (M:=if u.partner=[]then M else yg M u.partner u)
  have h2:=Ij (l:=M) (k:=u.partner) (v:=u)
  have h3:(if u.partner=[]then M else yg M u.partner u).length≤M.length+1:=by split<;>omega
  rw[Gp];omega
theorem qo9:∀ {l:List jd} {M:List (List UInt8×Int)},(kf M l).length≤M.length+l.length
 | [],M=>Gy _
 |x::l,M=>by
  show(kf (if x.held then M else yg M x.kind (qe .i64 (jn (0:Int) M x.kind+x.left))) l).length≤_
  have h1:=qo9 (l:=l) (M:=if x.held then M else yg M x.kind (qe .i64 (jn (0:Int) M x.kind+x.left)))
  have h2:=Ij (l:=M) (k:=x.kind) (v:=qe .i64 (jn (0:Int) M x.kind+x.left))
  have h3:(if x.held then M else yg M x.kind (qe .i64 (jn (0:Int) M x.kind+x.left))).length≤M.length+1:=by split<;>omega
  rw[Gp];omega
theorem je7 {a0 v4 s0}{u:ay}{M:List (List UInt8×Int)}(hl:(u.uses.getD []).length≤24)(hM:M.length≤1000)(hp:∀x∈u.uses.getD [],1≤x.n):bm (xy a0 v4 s0 u) (0,M)=En (.inr (((u.uses.getD []).length:Int),nT M (u.uses.getD []))):=by
 have hS:(u.uses.getD []).length≤SM:=by unfold SM;omega
 have:=sA (f:=xy a0 v4 s0 u) (fun i=>((i:Int),nT M ((u.uses.getD []).take i))) (n:=(u.uses.getD []).length) (d:=.inr (((u.uses.getD []).length:Int),nT M (u.uses.getD []))) (fun i hi=>by
  have hx:=Ey hi
  have h1:=hp _ (Gn hi)
  have h2:(nT M ((u.uses.getD []).take i)).length≤1000000:=by
   have:=YY (l:=(u.uses.getD []).take i) (M:=M)
   rw[Gs]at this;omega
  unfold xy
  simp only[ye hi,cond_true,jb hx,ob,YX h2,decide_eq_false (show ¬((u.uses.getD [])[i]).n<1 by omega),decide_eq_false (show ¬(24:Int)<(i:Int) by omega),cond_false,oL hi hS]
  unfold nT
  rw[IG hx]) (by
  unfold xy
  simp only[zr,cond_false,Gv])
 exact this
theorem zkz (a0 v4 s0 u m):JZ a0 v4 s0 u m=xy a0 v4 s0 u:=rfl
theorem zc9 (a0 v4 d s2 x y m):J3 a0 v4 d s2 x y m=xD a0 v4 d s2 x y:=rfl
theorem ja1 {a0:Option (List GEv)}{g:aj}(hn:(g.units.getD []).length≤24)(hu:∀u∈g.units.getD [],(u.uses.getD []).length≤24)(hp:∀u∈g.units.getD [],∀x∈u.uses.getD [],1≤x.n):
  bm (Aq a0 (g,0,0)) (0,[],[])=En (.inr (((g.units.getD []).length:Int),ng [] ((g.units.getD []).map ay.er),y9 [] (g.units.getD []))):=by
 have hS:(g.units.getD []).length≤SM:=by unfold SM;omega
 have:=sA (f:=Aq a0 (g,0,0)) (fun i=>((i:Int),ng [] (((g.units.getD []).take i).map ay.er),y9 [] ((g.units.getD []).take i))) (n:=(g.units.getD []).length) (d:=.inr (((g.units.getD []).length:Int),ng [] ((g.units.getD []).map ay.er),y9 [] (g.units.getD []))) (fun i hi=>by
  have hx:=Ey hi
  have hm:=Gn hi
  have h1:(ng [] (((g.units.getD []).take i).map ay.er)).length≤1000:=by
   have:=qv2 (l:=((g.units.getD []).take i).map ay.er) (M:=[]) (fun u lS=>by
    obtain⟨v,hv,rfl⟩:=List.mem_map.1 lS
    exact hu v (List.mem_of_mem_take hv))
   rw[Gt,Gs,Gw]at this;omega
  have h2:(y9 [] ((g.units.getD []).take i)).length≤1000000:=by
   have:=qow (l:=(g.units.getD []).take i) (M:=[])
   rw[Gs,Gw]at this;omega
  have e1:ng [] (((g.units.getD []).take (i+1)).map ay.er)=nT (ng [] (((g.units.getD []).take i).map ay.er)) (((g.units.getD [])[i]).uses.getD []):=by
   rw[List.take_add_one,hx,List.map_append]
   unfold ng
   rw[List.foldl_append]
   rfl
  have e2:y9 [] ((g.units.getD []).take (i+1))=if((g.units.getD [])[i]).partner=[]then y9 [] ((g.units.getD []).take i)else yg (y9 [] ((g.units.getD []).take i)) ((g.units.getD [])[i]).partner ((g.units.getD [])[i]):=by
   unfold y9
   rw[IG hx]
  unfold Aq
  rw[e1,e2]
  simp only[ye hi,cond_true,jb hx,ob,YX h2,zkz,je7 (hu _ hm) h1 (hp _ hm),oL hi hS]
  by_cases hq:((g.units.getD [])[i]).partner=[]
  ·rw[decide_eq_true hq,if_pos hq];rfl
  ·rw[decide_eq_false hq,if_neg hq];rfl) (by
  unfold Aq
  simp only[zr,cond_false,Gv])
 exact this
theorem jrl (a0:Option (List GEv)):f7 a0=En true:=by
 obtain⟨b1,p1,k1⟩:=jfr (l:=a0) (n:=24) (by omega)
 unfold f7
 rw[show f11 a0 24=En b1 from p1,ob]
 cases b1 with
 |false=>rfl
 |true=>
 rw[cond_true]
 obtain⟨hn,h,j⟩:=k1 rfl
 have hn:(a0.getD []).length≤24:=by omega
 obtain⟨g,g1,g2,g3⟩:=j.cq
 have w2:=j.xj
 have w3:=j.ok.wf3 q0t (by have:=j.hbs.2;omega) _ _ j.ok.now
 obtain⟨n1,n2,n3⟩:=j.few hn
 have hU:(now h).units=(g.units.getD []).map ay.er:=by rw[←g2];rfl
 have Oz:(now h).lots=g.lots.getD []:=by rw[←g2];rfl
 rw[hU,Gt]at n2
 rw[Oz]at n1
 have hS:(g.units.getD []).length≤SM:=by unfold SM;omega
 have hLS:(g.lots.getD []).length≤SM:=by unfold SM;omega
 have cR:∀u∈g.units.getD [],u.er∈(now h).units:=fun u hu=>by rw[hU];exact List.mem_map_of_mem hu
 rw[g1,ob]
 dsimp only
 rw[decide_eq_true rfl,cond_true,decide_eq_false (by omega),cond_false,decide_eq_false (by omega),cond_false]
 rw[ja1 n2 (fun u hu=>n3 _ (cR u hu)) (fun u hu=>w3.uses _ (cR u hu)),ob]
 dsimp only
 have J9:∀k,jn (0:Int) (ng [] ((g.units.getD []).map ay.er)) k=eT k (now h).units:=fun k=>by rw[←hU];exact jm5 j.wf w3 k
 generalize hV:(((g.units.getD []).length:Int),ng [] ((g.units.getD []).map ay.er),y9 [] (g.units.getD []))=V
 have hV1:V.2.1=ng [] ((g.units.getD []).map ay.er):=by rw[←hV]
 have hV2:V.2.2=y9 [] (g.units.getD []):=by rw[←hV]
 have inner:∀(x:jd) (s:Int×List (List UInt8×Int)),x∈(now h).lots→bm (xD a0 (g,0,0) V s x (jl (sx (now h) x.name),0)) 0=En (.inr ((g.units.getD []).length:Int)):=fun x s hx=>by
  have Gq:(sx (now h) x.name).length≤SM:=by
   unfold sx
   rw[Gt]
   exact Nat.le_trans (List.length_filter_le _ _) (by rw[hU,Gt];exact hS)
  have:=sA (f:=xD a0 (g,0,0) V s x (jl (sx (now h) x.name),0)) (fun i=>(i:Int)) (n:=(g.units.getD []).length) (d:=.inr ((g.units.getD []).length:Int)) (fun i hi=>by
   have hy:=Ey hi
   obtain⟨m1,_,_,m4⟩:=j.xl g2 hy
   have hq:f22 (jl (sx (now h) x.name)) ((g.units.getD [])[i]).name=En (oK ((g.units.getD [])[i]).er x.name):=by
    rw[Yn (by rw[j8];exact Gq),j8]
    exact congrArg En (jhs (key:=fun u:aW=>u.name) w2.units (fun u=>oK u x.name) (x:=((g.units.getD [])[i]).er) (cR _ (Gn hi)))
   unfold xD
   simp only[ye hi,cond_true,jb hy,ob,m1,decide_true,jle m4,hq,oL hi hS]
   cases oK ((g.units.getD [])[i]).er x.name<;>rfl) (by
   unfold xD
   simp only[zr,cond_false])
  exact this
 have lots:bm (Ar a0 (g,0,0) V) (0,[])=En (.inr (((g.lots.getD []).length:Int),kf [] (g.lots.getD []))):=by
  have:=sA (f:=Ar a0 (g,0,0) V) (fun i=>((i:Int),kf [] ((g.lots.getD []).take i))) (n:=(g.lots.getD []).length) (d:=.inr (((g.lots.getD []).length:Int),kf [] (g.lots.getD []))) (fun i hi=>by
   have hx:=Ey hi
   have eR:(now h).lots[i]?=En ((g.lots.getD [])[i]):=by rw[Oz];exact hx
   have hm:(g.lots.getD [])[i]∈(now h).lots:=List.mem_of_getElem? eR
   have hw:=w3.lots i _ eR
   have hu:=j.used (n:=((g.lots.getD [])[i]).name) (by rw[jdg w2 eR];rfl)
   have YZ:qe .i64 (((g.lots.getD [])[i]).left+jn (0:Int) V.2.1 ((g.lots.getD [])[i]).name)=((g.lots.getD [])[i]).count:=by
    have ht:=JJ ((g.lots.getD [])[i]).name w3.uses
    rw[hV1,J9,hw.2.2]
    exact MS (by omega) (by omega)
   have h2:(kf [] ((g.lots.getD []).take i)).length≤1000000:=by
    have:=qo9 (l:=(g.lots.getD []).take i) (M:=[])
    rw[Gs,Gw]at this;omega
   have e2:kf [] ((g.lots.getD []).take (i+1))=if((g.lots.getD [])[i]).held then kf [] ((g.lots.getD []).take i)else yg (kf [] ((g.lots.getD []).take i)) ((g.lots.getD [])[i]).kind (qe .i64 (jn (0:Int) (kf [] ((g.lots.getD []).take i)) ((g.lots.getD [])[i]).kind+((g.lots.getD [])[i]).left)):=by
    unfold kf
    rw[IG hx]
   unfold Ar
   rw[e2]
   simp only[ye hi,cond_true,jb hx,ob,hu,decide_true,decide_eq_false (show ¬((g.lots.getD [])[i]).left<0 by omega),cond_false,decide_eq_true YZ,YX h2,zc9,inner _ _ hm,oL hi hLS]
   cases ((g.lots.getD [])[i]).held<;>rfl) (by
   unfold Ar
   simp only[zr,cond_false,Gv])
  exact this
 rw[lots,ob]
 dsimp only
 have CT:bm (As a0 (g,0,0) V (((g.lots.getD []).length:Int),kf [] (g.lots.getD []))) 0=En (.inr ((g.lots.getD []).length:Int)):=by
  have:=sA (f:=As a0 (g,0,0) V (((g.lots.getD []).length:Int),kf [] (g.lots.getD []))) (fun i=>(i:Int)) (n:=(g.lots.getD []).length) (d:=.inr ((g.lots.getD []).length:Int)) (fun i hi=>by
   have hx:=Ey hi
   have hm:(g.lots.getD [])[i]∈(now h).lots:=by rw[Oz];exact Gn hi
   have ct:=j.JI (j.ok.oN _ _ j.ok.now _ hm)
   have hg:JG (now h) ((g.lots.getD [])[i]).kind=jn (0:Int) (kf [] (g.lots.getD [])) ((g.lots.getD [])[i]).kind:=by
    rw[qoy]
    unfold JG
    rw[Oz]
    rfl
   unfold As
   simp only[ye hi,cond_true,jb hx,ob,ct,decide_true,hg,oL hi hLS]) (by
   unfold As
   simp only[zr,cond_false])
  exact this
 rw[CT,ob]
 dsimp only
 have pairs:bm (Au (g,0,0) V (((g.lots.getD []).length:Int),kf [] (g.lots.getD []))) 0=En (.inr ((g.units.getD []).length:Int)):=by
  have:=sA (f:=Au (g,0,0) V (((g.lots.getD []).length:Int),kf [] (g.lots.getD []))) (fun i=>(i:Int)) (n:=(g.units.getD []).length) (d:=.inr ((g.units.getD []).length:Int)) (fun i hi=>by
   have hx:=Ey hi
   obtain⟨q1,q2⟩:=jqt w2 hU (u:=(g.units.getD [])[i]) (Gn hi)
   rw[←hV2]at q1 q2
   unfold Au
   simp only[ye hi,cond_true,jb hx,ob,decide_eq_true q1,oL hi hS]
   by_cases hq:(jn dl V.2.2 ((g.units.getD [])[i]).name).name=[]
   ·rw[decide_eq_true hq,cond_true]
   ·rw[decide_eq_false hq,cond_false,decide_eq_true (q2 hq),cond_true]) (by
   unfold Au
   simp only[zr,cond_false])
  exact this
 rw[pairs]
 rfl
theorem I7 (a0:Option (List GEv)):qc dp (X dp) 7 [sl 5 vev a0]=En (.bool true,I):=W7 (jrl a0)
end Go.Z
end
