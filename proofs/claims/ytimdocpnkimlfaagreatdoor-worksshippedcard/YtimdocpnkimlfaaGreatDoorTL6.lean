/- Chapter 10. -/
import Derived.Test.YtimdocpnkimlfaaGreatDoorAZ
import Derived.Test.YtimdocpnkimlfaaGreatDoorCM
import Derived.Test.YtimdocpnkimlfaaGreatDoorEN
set_option linter.unusedVariables false
set_option linter.unusedSimpArgs false
set_option maxRecDepth 100000
set_option maxHeartbeats 4000000
noncomputable section
open Option renaming some→I,getD_some→Gt
open Bool renaming false→En,true→Gq,false_beq→G0,not_false→G1,true_beq→G2,not_true→G5,not_not→G7
open List renaming getElem?_eq_getElem→Ey,getElem?_map→Gn,mem_map_of_mem→Gp,getElem_mem→Gs,mem_of_getElem?→Gv,mem_of_mem_take→Gw,length_take→Gy,length_map→Gz,map_take→G6
namespace Go.Z
open Go Go.Abs Go.W
theorem j4z {a0:Option (List GEv)}{a1:Int}{r}(h:f11 a0 a1=I r):qc dp (X dp) 11 [sl 5 vev a0,Iv a1]=I (.bool r,En):=oO rfl rfl (W11 h) (by first|rfl|simp only[go_sem,seval])
theorem j25 {a0:Option (List GEv)}{r}(h:f16 a0=I r):qc dp (X dp) 16 [sl 5 vev a0]=I (.aB [aR r.1,Iv r.2.1,Iv r.2.2],En):=oO rfl rfl (JU h) (by first|rfl|simp only[go_sem,seval])
theorem j1j {a0:Option (List GEv)}{a1:List UInt8}{r}(h:f24 a0 a1=I r):qc dp (X dp) 24 [sl 5 vev a0,.str a1]=I (.aB [sl 1 j9 r.1,Iv r.2],En):=oO rfl rfl (W24 h) (by first|rfl|simp only[go_sem,seval])
theorem j8s {a0:Option (List GEv)}{a1:List UInt8}{r}(h:f21 a0 a1=I r):qc dp (X dp) 21 [sl 5 vev a0,.str a1]=I (.aB [sl 1 j9 r.1,Iv r.2],En):=oO rfl rfl (W21 h) (by first|rfl|simp only[go_sem,seval])
theorem j5o {a0:Option (List GEv)}{a1:List UInt8}{r}(h:f25 a0 a1=I r):qc dp (X dp) 25 [sl 5 vev a0,.str a1]=I (Iv r,En):=oO rfl rfl (W25 h) (by first|rfl|simp only[go_sem,seval])
theorem j49 {a0:Option (List (List UInt8))}{a1:List UInt8}{r}(h:f22 a0 a1=I r):qc dp (X dp) 22 [sl 1 j9 a0,.str a1]=I (.bool r,En):=oO rfl rfl (W22 h) (by first|rfl|simp only[go_sem,seval])
theorem jn1 {a0:ay}{a1:Option (List aS)}{r}(h:f26 a0 a1=I r):qc dp (X dp) 26 [aU a0,sl 4 qv a1]=I (.bool r,En):=oO rfl rfl (W26 h) (by first|rfl|simp only[go_sem,seval])
def xr (a0:Option (List GEv))(s0:Int×(List (List UInt8×ay)))(cm:GEv)(dZ:aj×Int×Int)(bR:aj×Int×Int)(eI:(Option (List (List UInt8)))×Int)(s1:Int):Option (Int⊕(Unit⊕Int)):=
 cond (decide (s1<((dZ.1.lots.getD []).length:Int)))
  (qa (qr (dZ.1.lots.getD []) s1) fun JV=>
  cond JV.held
   (qa (f22 eI.1 JV.name) fun YE=>
   cond YE
    (I (.inr (.inl ())))
    (I (.inl (qe .i64 (s1+1)))))
   (I (.inl (qe .i64 (s1+1)))))
  (I (.inr (.inr s1)))
def NY (a0:Option (List GEv))(s0:Int×(List (List UInt8×ay)))(cm:GEv)(dZ:aj×Int×Int)(bR:aj×Int×Int)(eI:(Option (List (List UInt8)))×Int)(s1:Int):bf:=⟨[(0,sl 5 vev a0,En),(3,.map 0,En),(5,.ah (aE cm),En),(9,.ah (aR bR.1),En),(14,sl 1 j9 eI.1,En),(26,sl 5 vev a0,En),(27,Lv a0,En),(28,Iv s0.1,En),(122,sl 5 jc dZ.1.lots,En),(123,Lv dZ.1.lots,En),(124,Iv s1,En)],[.map (jo aY s0.2)]⟩
def NZ (a0:Option (List GEv))(s0:Int×(List (List UInt8×ay)))(cm:GEv)(dZ:aj×Int×Int)(bR:aj×Int×Int)(eI:(Option (List (List UInt8)))×Int):Unit⊕Int→jf×bf
 | .inl d=>(.ret,⟨[(2,.bool En,En)],[.map (jo aY s0.2)]⟩)
 | .inr d=>(.exit 2,⟨[(0,sl 5 vev a0,En),(3,.map 0,En),(5,.ah (aE cm),En),(9,.ah (aR bR.1),En),(14,sl 1 j9 eI.1,En),(26,sl 5 vev a0,En),(27,Lv a0,En),(28,Iv s0.1,En),(122,sl 5 jc dZ.1.lots,En),(123,Lv dZ.1.lots,En),(124,Iv d,En),(125,.bool En,En)],[.map (jo aY s0.2)]⟩)
theorem zef (a0:Option (List GEv))(s0:Int×(List (List UInt8×ay)))(cm:GEv)(dZ:aj×Int×Int)(bR:aj×Int×Int)(eI:(Option (List (List UInt8)))×Int)(s1:Int)(r)(h:xr a0 s0 cm dZ bR eI s1=I r):jz dp N0 (NY a0 s0 cm dZ bR eI) (NZ a0 s0 cm dZ bR eI) s1 r:=by
 unfold xr at h
 repeat' first|(replace h:=qb h;obtain⟨d,g,h⟩:=h;with_reducible first|replace g:=j49 g|skip)|(replace h:=qd h;rcases h with⟨g,h⟩|⟨g,h⟩)
 all_goals (cases h<;>((first|refine qz ?_|refine jp ?_);simp only[go_sem,seval,N0,NY,jg,NZ, *]<;>rfl))
theorem zc8 (a0:Option (List GEv))(s0:Int×(List (List UInt8×ay)))(cm:GEv)(dZ:aj×Int×Int)(bR:aj×Int×Int)(eI:(Option (List (List UInt8)))×Int){s1:Int}{d}(h:bm (xr a0 s0 cm dZ bR eI) s1=I d):X dp (.loop N0) (NY a0 s0 cm dZ bR eI s1)=I (NZ a0 s0 cm dZ bR eI d):=zj (zef a0 s0 cm dZ bR eI) h
def xt (a0:Option (List GEv))(s0:Int×(List (List UInt8×ay)))(cm:GEv)(bR:aj×Int×Int)(s2:Int×(List (List UInt8×ay))):Option ((Int×(List (List UInt8×ay)))⊕(((List (List UInt8×ay)))⊕(Int×(List (List UInt8×ay))))):=
 cond (decide (s2.1<((bR.1.units.getD []).length:Int)))
  (qa (qr (bR.1.units.getD []) s2.1) fun cu=>
  cond (decide (cm.kind=([115,104,105,112]:List UInt8)))
   (qa (qr (cm.names.getD []) 0) fun YF=>
   cond (decide (cu.name=YF))
    (cond cu.shipped
     (qa (f26 (⟨cu.name,cu.product,cu.version,cu.uses,cu.results,cu.partner,Gq,cu.ai⟩) bR.1.ae) fun YG=>
     cond YG
      (qa (mV s2.2 cu.name (⟨cu.name,cu.product,cu.version,cu.uses,cu.results,cu.partner,Gq,cu.ai⟩)) fun iX=>
      cond (decide (((jn dl iX cu.name).name)=[]))
       (I (.inr (.inl iX)))
       (cond (decide (cu.version=((jn dl iX cu.name).version)))
        (cond (decide (((cu.uses.getD []).length:Int)=((((jn dl iX cu.name).uses).getD []).length:Int)))
         (cond (decide (((cu.results.getD []).length:Int)=((((jn dl iX cu.name).results).getD []).length:Int)))
          (cond (decide (cu.partner=((jn dl iX cu.name).partner)))
           (I (.inl (qe .i64 (s2.1+1),iX)))
           (I (.inr (.inl iX))))
          (I (.inr (.inl iX))))
         (I (.inr (.inl iX))))
        (I (.inr (.inl iX)))))
      (I (.inr (.inl s2.2))))
     (I (.inr (.inl s2.2))))
    (cond cu.shipped
     (cond (decide (((jn dl s2.2 cu.name).name)=[]))
      (I (.inr (.inl s2.2)))
      (cond (decide (cu.version=((jn dl s2.2 cu.name).version)))
       (cond (decide (((cu.uses.getD []).length:Int)=((((jn dl s2.2 cu.name).uses).getD []).length:Int)))
        (cond (decide (((cu.results.getD []).length:Int)=((((jn dl s2.2 cu.name).results).getD []).length:Int)))
         (cond (decide (cu.partner=((jn dl s2.2 cu.name).partner)))
          (I (.inl (qe .i64 (s2.1+1),s2.2)))
          (I (.inr (.inl s2.2))))
         (I (.inr (.inl s2.2))))
        (I (.inr (.inl s2.2))))
       (I (.inr (.inl s2.2)))))
     (cond (decide (((jn dl s2.2 cu.name).name)=[]))
      (I (.inl (qe .i64 (s2.1+1),s2.2)))
      (I (.inr (.inl s2.2))))))
   (cond cu.shipped
    (cond (decide (((jn dl s2.2 cu.name).name)=[]))
     (I (.inr (.inl s2.2)))
     (cond (decide (cu.version=((jn dl s2.2 cu.name).version)))
      (cond (decide (((cu.uses.getD []).length:Int)=((((jn dl s2.2 cu.name).uses).getD []).length:Int)))
       (cond (decide (((cu.results.getD []).length:Int)=((((jn dl s2.2 cu.name).results).getD []).length:Int)))
        (cond (decide (cu.partner=((jn dl s2.2 cu.name).partner)))
         (I (.inl (qe .i64 (s2.1+1),s2.2)))
         (I (.inr (.inl s2.2))))
        (I (.inr (.inl s2.2))))
       (I (.inr (.inl s2.2))))
      (I (.inr (.inl s2.2)))))
    (cond (decide (((jn dl s2.2 cu.name).name)=[]))
     (I (.inl (qe .i64 (s2.1+1),s2.2)))
     (I (.inr (.inl s2.2))))))
  (I (.inr (.inr (s2.1,s2.2))))
def N1 (a0:Option (List GEv))(s0:Int×(List (List UInt8×ay)))(cm:GEv)(bR:aj×Int×Int)(s2:Int×(List (List UInt8×ay))):bf:=⟨[(0,sl 5 vev a0,En),(3,.map 0,En),(5,.ah (aE cm),En),(9,.ah (aR bR.1),En),(26,sl 5 vev a0,En),(27,Lv a0,En),(28,Iv s0.1,En),(138,sl 8 aY bR.1.units,En),(139,Lv bR.1.units,En),(140,Iv s2.1,En)],[.map (jo aY s2.2)]⟩
def N2 (a0:Option (List GEv))(s0:Int×(List (List UInt8×ay)))(cm:GEv)(bR:aj×Int×Int):((List (List UInt8×ay)))⊕(Int×(List (List UInt8×ay)))→jf×bf
 | .inl d=>(.ret,⟨[(2,.bool En,En)],[.map (jo aY d)]⟩)
 | .inr d=>(.exit 4,⟨[(0,sl 5 vev a0,En),(3,.map 0,En),(5,.ah (aE cm),En),(9,.ah (aR bR.1),En),(26,sl 5 vev a0,En),(27,Lv a0,En),(28,Iv s0.1,En),(138,sl 8 aY bR.1.units,En),(139,Lv bR.1.units,En),(140,Iv d.1,En),(141,.bool En,En)],[.map (jo aY d.2)]⟩)
theorem zib (a0:Option (List GEv))(s0:Int×(List (List UInt8×ay)))(cm:GEv)(bR:aj×Int×Int)(s2:Int×(List (List UInt8×ay)))(r)(h:xt a0 s0 cm bR s2=I r):jz dp CD (N1 a0 s0 cm bR) (N2 a0 s0 cm bR) s2 r:=by
 unfold xt at h
 repeat' first|(replace h:=qb h;obtain⟨d,g,h⟩:=h;with_reducible first|replace g:=jn1 g|replace g:=XD g|skip)|(replace h:=qd h;rcases h with⟨g,h⟩|⟨g,h⟩)
 all_goals (cases h<;>((first|refine qz ?_|refine jp ?_);simp only[go_sem,seval,CD,N1,jg,XB,G2,G0,G5,G1,G7,N2, *]<;>rfl))
theorem zd6 (a0:Option (List GEv))(s0:Int×(List (List UInt8×ay)))(cm:GEv)(bR:aj×Int×Int){s2:Int×(List (List UInt8×ay))}{d}(h:bm (xt a0 s0 cm bR) s2=I d):X dp (.loop CD) (N1 a0 s0 cm bR s2)=I (N2 a0 s0 cm bR d):=zj (zib a0 s0 cm bR) h
def xu (a0:Option (List GEv))(s0:Int×(List (List UInt8×ay)))(cm:GEv)(bR:aj×Int×Int)(s2:Int×(List (List UInt8×ay))):Option ((Int×(List (List UInt8×ay)))⊕(((List (List UInt8×ay)))⊕(Int×(List (List UInt8×ay))))):=
 cond (decide (s2.1<((bR.1.units.getD []).length:Int)))
  (qa (qr (bR.1.units.getD []) s2.1) fun cw=>
  cond (decide (cm.kind=([115,104,105,112]:List UInt8)))
   (qa (qr (cm.names.getD []) 0) fun YH=>
   cond (decide (cw.name=YH))
    (cond cw.shipped
     (qa (f26 (⟨cw.name,cw.product,cw.version,cw.uses,cw.results,cw.partner,Gq,cw.ai⟩) bR.1.ae) fun YI=>
     cond YI
      (qa (mV s2.2 cw.name (⟨cw.name,cw.product,cw.version,cw.uses,cw.results,cw.partner,Gq,cw.ai⟩)) fun iY=>
      cond (decide (((jn dl iY cw.name).name)=[]))
       (I (.inr (.inl iY)))
       (cond (decide (cw.version=((jn dl iY cw.name).version)))
        (cond (decide (((cw.uses.getD []).length:Int)=((((jn dl iY cw.name).uses).getD []).length:Int)))
         (cond (decide (((cw.results.getD []).length:Int)=((((jn dl iY cw.name).results).getD []).length:Int)))
          (cond (decide (cw.partner=((jn dl iY cw.name).partner)))
           (I (.inl (qe .i64 (s2.1+1),iY)))
           (I (.inr (.inl iY))))
          (I (.inr (.inl iY))))
         (I (.inr (.inl iY))))
        (I (.inr (.inl iY)))))
      (I (.inr (.inl s2.2))))
     (I (.inr (.inl s2.2))))
    (cond cw.shipped
     (cond (decide (((jn dl s2.2 cw.name).name)=[]))
      (I (.inr (.inl s2.2)))
      (cond (decide (cw.version=((jn dl s2.2 cw.name).version)))
       (cond (decide (((cw.uses.getD []).length:Int)=((((jn dl s2.2 cw.name).uses).getD []).length:Int)))
        (cond (decide (((cw.results.getD []).length:Int)=((((jn dl s2.2 cw.name).results).getD []).length:Int)))
         (cond (decide (cw.partner=((jn dl s2.2 cw.name).partner)))
          (I (.inl (qe .i64 (s2.1+1),s2.2)))
          (I (.inr (.inl s2.2))))
         (I (.inr (.inl s2.2))))
        (I (.inr (.inl s2.2))))
       (I (.inr (.inl s2.2)))))
     (cond (decide (((jn dl s2.2 cw.name).name)=[]))
      (I (.inl (qe .i64 (s2.1+1),s2.2)))
      (I (.inr (.inl s2.2))))))
   (cond cw.shipped
    (cond (decide (((jn dl s2.2 cw.name).name)=[]))
     (I (.inr (.inl s2.2)))
     (cond (decide (cw.version=((jn dl s2.2 cw.name).version)))
      (cond (decide (((cw.uses.getD []).length:Int)=((((jn dl s2.2 cw.name).uses).getD []).length:Int)))
       (cond (decide (((cw.results.getD []).length:Int)=((((jn dl s2.2 cw.name).results).getD []).length:Int)))
        (cond (decide (cw.partner=((jn dl s2.2 cw.name).partner)))
         (I (.inl (qe .i64 (s2.1+1),s2.2)))
         (I (.inr (.inl s2.2))))
        (I (.inr (.inl s2.2))))
       (I (.inr (.inl s2.2))))
      (I (.inr (.inl s2.2)))))
    (cond (decide (((jn dl s2.2 cw.name).name)=[]))
     (I (.inl (qe .i64 (s2.1+1),s2.2)))
     (I (.inr (.inl s2.2))))))
  (I (.inr (.inr (s2.1,s2.2))))
def N3 (a0:Option (List GEv))(s0:Int×(List (List UInt8×ay)))(cm:GEv)(bR:aj×Int×Int)(s2:Int×(List (List UInt8×ay))):bf:=⟨[(0,sl 5 vev a0,En),(3,.map 0,En),(5,.ah (aE cm),En),(9,.ah (aR bR.1),En),(26,sl 5 vev a0,En),(27,Lv a0,En),(28,Iv s0.1,En),(138,sl 8 aY bR.1.units,En),(139,Lv bR.1.units,En),(140,Iv s2.1,En)],[.map (jo aY s2.2)]⟩
def N4 (a0:Option (List GEv))(s0:Int×(List (List UInt8×ay)))(cm:GEv)(bR:aj×Int×Int):((List (List UInt8×ay)))⊕(Int×(List (List UInt8×ay)))→jf×bf
 | .inl d=>(.ret,⟨[(2,.bool En,En)],[.map (jo aY d)]⟩)
 | .inr d=>(.exit 4,⟨[(0,sl 5 vev a0,En),(3,.map 0,En),(5,.ah (aE cm),En),(9,.ah (aR bR.1),En),(26,sl 5 vev a0,En),(27,Lv a0,En),(28,Iv s0.1,En),(138,sl 8 aY bR.1.units,En),(139,Lv bR.1.units,En),(140,Iv d.1,En),(141,.bool En,En)],[.map (jo aY d.2)]⟩)
theorem j6j (a0:Option (List GEv))(s0:Int×(List (List UInt8×ay)))(cm:GEv)(bR:aj×Int×Int)(s2:Int×(List (List UInt8×ay)))(r)(h:xu a0 s0 cm bR s2=I r):jz dp CD (N3 a0 s0 cm bR) (N4 a0 s0 cm bR) s2 r:=by
 unfold xu at h
 repeat' first|(replace h:=qb h;obtain⟨d,g,h⟩:=h;with_reducible first|replace g:=jn1 g|replace g:=XD g|skip)|(replace h:=qd h;rcases h with⟨g,h⟩|⟨g,h⟩)
 all_goals (cases h<;>((first|refine qz ?_|refine jp ?_);simp only[go_sem,seval,CD,N3,jg,XB,G2,G0,G5,G1,G7,N4, *]<;>rfl))
theorem j4k (a0:Option (List GEv))(s0:Int×(List (List UInt8×ay)))(cm:GEv)(bR:aj×Int×Int){s2:Int×(List (List UInt8×ay))}{d}(h:bm (xu a0 s0 cm bR) s2=I d):X dp (.loop CD) (N3 a0 s0 cm bR s2)=I (N4 a0 s0 cm bR d):=zj (j6j a0 s0 cm bR) h
def wm (a0:Option (List GEv))(s0:Int×(List (List UInt8×ay))):Option ((Int×(List (List UInt8×ay)))⊕(((List (List UInt8×ay)))⊕(Int×(List (List UInt8×ay))))):=
 cond (decide (s0.1<((a0.getD []).length:Int)))
  (qa (qr (a0.getD []) s0.1) fun cm=>
  qa (vQ a0 none (I s0.1)) fun xw=>
  qa (f16 xw) fun dZ=>
  qa (vQ a0 none (I (qe .i64 (s0.1+1)))) fun CF=>
  qa (f16 CF) fun bR=>
  cond (decide (dZ.2.2=0))
   (cond (decide (bR.2.2=0))
    (cond (decide (24<((bR.1.units.getD []).length:Int)))
     (I (.inr (.inl s0.2)))
     (cond (decide (24<((bR.1.lots.getD []).length:Int)))
      (I (.inr (.inl s0.2)))
      (cond (decide (24<((dZ.1.lots.getD []).length:Int)))
       (I (.inr (.inl s0.2)))
       (cond (decide (cm.kind=([115,104,105,112]:List UInt8)))
        (qa (qr (cm.names.getD []) 0) fun nU=>
        qa (f24 xw nU) fun sC=>
        qa (f21 xw nU) fun eI=>
        qa (f25 xw nU) fun CG=>
        cond (decide (CG=0))
         (cond (decide (sC.2=0))
          (cond (decide (eI.2=0))
           (cond (decide (((sC.1.getD []).length:Int)=0))
            (qa (bm (xr a0 s0 cm dZ bR eI) 0) fun CH=>match CH with
             | .inl YJ=>
              I (.inr (.inl s0.2))
             | .inr YK=>
              qa (bm (xt a0 s0 cm bR) (0,s0.2)) fun CI=>match CI with
               | .inl CJ=>
                I (.inr (.inl CJ))
               | .inr CK=>
                I (.inl (qe .i64 (s0.1+1),CK.2)))
            (I (.inr (.inl s0.2))))
           (I (.inr (.inl s0.2))))
          (I (.inr (.inl s0.2))))
         (I (.inr (.inl s0.2))))
        (qa (bm (xu a0 s0 cm bR) (0,s0.2)) fun CL=>match CL with
         | .inl CM=>
          I (.inr (.inl CM))
         | .inr CN=>
          I (.inl (qe .i64 (s0.1+1),CN.2)))))))
    (I (.inr (.inl s0.2))))
   (I (.inr (.inl s0.2))))
  (I (.inr (.inr (s0.1,s0.2))))
def N5 (a0:Option (List GEv))(s0:Int×(List (List UInt8×ay))):bf:=⟨[(0,sl 5 vev a0,En),(3,.map 0,En),(26,sl 5 vev a0,En),(27,Lv a0,En),(28,Iv s0.1,En)],[.map (jo aY s0.2)]⟩
def N6 (a0:Option (List GEv)):((List (List UInt8×ay)))⊕(Int×(List (List UInt8×ay)))→jf×bf
 | .inl d=>(.ret,⟨[(2,.bool En,En)],[.map (jo aY d)]⟩)
 | .inr d=>(.exit 0,⟨[(0,sl 5 vev a0,En),(3,.map 0,En),(26,sl 5 vev a0,En),(27,Lv a0,En),(28,Iv d.1,En),(29,.bool En,En)],[.map (jo aY d.2)]⟩)
theorem zee (a0:Option (List GEv))(s0:Int×(List (List UInt8×ay)))(r)(h:wm a0 s0=I r):jz dp N7 (N5 a0) (N6 a0) s0 r:=by
 unfold wm at h
 repeat' first|(replace h:=qb h;obtain⟨d,g,h⟩:=h;with_reducible first|replace g:=j25 g|replace g:=j1j g|replace g:=j8s g|replace g:=j5o g|replace g:=jev g|(replace g:=zc8 a0 s0 _ _ _ _ g;rcases d with d|d<;>dsimp only[NY,NZ,zk]at g h)|(replace g:=zd6 a0 s0 _ _ g;rcases d with d|d<;>dsimp only[N1,N2,zk]at g h)|(replace g:=j4k a0 s0 _ _ g;rcases d with d|d<;>dsimp only[N3,N4,zk]at g h)|skip)|(replace h:=qd h;rcases h with⟨g,h⟩|⟨g,h⟩)
 all_goals (cases h<;>((first|refine qz ?_|refine jp ?_);simp only[go_sem,seval,N7,N5,jg,N6, *]<;>rfl))
theorem zjq (a0:Option (List GEv)){s0:Int×(List (List UInt8×ay))}{d}(h:bm (wm a0) s0=I d):X dp (.loop N7) (N5 a0 s0)=I (N6 a0 d):=zj (zee a0) h
def f6 (a0:Option (List GEv)):Option Bool:=
 qa (f11 a0 24) fun v1=>
 cond v1
  (qa (bm (wm a0) (0,[])) fun YL=>match YL with
   | .inl d768=>
    I En
   | .inr d769=>
    qa (Ge) fun YM=>
    I YM)
  (qa (Ge) fun YN=>
  I YN)
theorem W6 {a0:Option (List GEv)}{r}(h:f6 a0=I r):qc dp (X dp) 6 [sl 5 vev a0]=I (.bool r,En):=by
 unfold f6 at h
 refine zh c6 ?_
 repeat' first|(replace h:=qb h;obtain⟨d,g,h⟩:=h;with_reducible first|replace g:=j4z g|replace g:=Q8 g|(replace g:=zjq a0 g;rcases d with d|d<;>dsimp only[N5,N6,zk]at g h)|skip)|(replace h:=qd h;rcases h with⟨g,h⟩|⟨g,h⟩)
 all_goals (cases h<;>(simp only[go_sem,seval,c6,q0v (h0:=0) (r:=0), *];exact⟨_,rfl⟩))
end Go.Z
namespace Go.Z
open Go Go.Abs Go.W
theorem q6r {β:Type}{v a:ay}{good bad:β}(h1:v.shipped=Gq↔a.name≠[])(h2:v.shipped=Gq→N8 a.er v.er):
  cond v.shipped (cond (decide (a.name=[])) bad (cond (decide (v.version=a.version)) (cond (decide (((v.uses.getD []).length:Int)=((a.uses.getD []).length:Int))) (cond (decide (((v.results.getD []).length:Int)=((a.results.getD []).length:Int))) (cond (decide (v.partner=a.partner)) good bad) bad) bad) bad)) (cond (decide (a.name=[])) good bad)=good:=by
 cases hs:v.shipped with
 |true=>
  obtain⟨s1,s2,s3,s4⟩:=h2 hs
  have s1:v.version=a.version:=s1
  have s2:(v.uses.getD []).length=(a.uses.getD []).length:=s2
  have s3:(v.results.getD []).length=(a.results.getD []).length:=s3
  have s4:v.partner=a.partner:=s4
  rw[cond_true,decide_eq_false (h1.1 hs),cond_false,decide_eq_true s1,cond_true,decide_eq_true (by omega),cond_true,decide_eq_true (by omega),cond_true,decide_eq_true s4,cond_true]
 |false=>
  have:a.name=[]:=Classical.byContradiction fun h=>by
   have:=h1.2 h
   rw[hs]at this;cases this
  rw[cond_false,decide_eq_true this,cond_true]
abbrev CO (M:List (List UInt8×ay))(n:List UInt8):aW:=(jn dl M n).er
theorem jg0 {M:List (List UInt8×ay)}{n:List UInt8}{u:ay}:CO (yg M n u)=JW (CO M) n u.er:=by
 funext m
 unfold JW
 show(jn dl (yg M n u) m).er=_
 rw[B5]
 by_cases h:m=n
 ·rw[if_pos h,if_pos h]
 ·rw[if_neg h,if_neg h]
theorem Mu {α:Type}{M:List (List UInt8×α)}{k:List UInt8}{v:α}(h:M.length≤1000):mV M k v=I (yg M k v):=by
 unfold mV;rw[if_pos (by omega)]
theorem jcl {a0:Option (List GEv)}{s0:Int×List (List UInt8×ay)}{e:GEv}{g:aj}{M:List (List UInt8×ay)}(hk:e.kind≠([115,104,105,112]:List UInt8))(hn:(g.units.getD []).length≤24)(w:eX g.er)(v:bZ (CO M) g.er):
  bm (xu a0 s0 e (g,0,0)) (0,M)=I (.inr (((g.units.getD []).length:Int),M)):=by
 have hS:(g.units.getD []).length≤SM:=by unfold SM;omega
 have:=sA (f:=xu a0 s0 e (g,0,0)) (fun i=>((i:Int),M)) (n:=(g.units.getD []).length) (d:=.inr (((g.units.getD []).length:Int),M)) (fun i hi=>by
  have hx:=Ey hi
  obtain⟨c1,c2⟩:=v.check w (u:=((g.units.getD [])[i]).er) (by rw[mX];exact Gp (Gs hi))
  unfold xu
  simp only[ye hi,cond_true,jb hx,ob,decide_eq_false hk,cond_false,oL hi hS]
  exact q6r c1 c2) (by
  unfold xu
  simp only[zr,cond_false])
 exact this
theorem jbc {a0:Option (List GEv)}{s0:Int×List (List UInt8×ay)}{e:GEv}{g:aj}{M:List (List UInt8×ay)}{n:List UInt8}{iu:Nat}{U:ay}(hk:e.kind=([115,104,105,112]:List UInt8))(Bx:qr (e.names.getD []) 0=I n)(hn:(g.units.getD []).length≤24)(hM:M.length≤1000)(b:GB g)(w:eX g.er)
  (hU:(g.units.getD [])[iu]?=I U) (JX:U.name=n) (N9:U.shipped=Gq) (hj:wi U.er g.er.ae=Gq) (v:bZ (CO (yg M n U)) g.er):
  bm (xt a0 s0 e (g,0,0)) (0,M)=I (.inr (((g.units.getD []).length:Int),yg M n U)):=by
 have hS:(g.units.getD []).length≤SM:=by unfold SM;omega
 have br:=(List.getElem?_eq_some_iff.1 hU).1
 have FK:(⟨U.name,U.product,U.version,U.uses,U.results,U.partner,Gq,U.ai⟩:ay)=U:=by rw[←N9]
 have:=sA (f:=xt a0 s0 e (g,0,0)) (fun i=>((i:Int),if iu<i then yg M n U else M)) (n:=(g.units.getD []).length) (d:=.inr (((g.units.getD []).length:Int),yg M n U)) (fun i hi=>by
  have hx:=Ey hi
  obtain⟨c1,c2⟩:=v.check w (u:=((g.units.getD [])[i]).er) (by rw[mX];exact Gp (Gs hi))
  unfold xt
  simp only[ye hi,cond_true,jb hx,ob,decide_eq_true hk,Bx,oL hi hS]
  by_cases fC:i=iu
  ·have hUi:(g.units.getD [])[i]=U:=by subst fC;rw[hU]at hx;exact(I.inj hx).symm
   have hg:jn dl (yg M U.name U) U.name=U:=by rw[B5,if_pos rfl]
   have bB:U.name≠[]:=w.named U.er (by rw[mX];exact Gp (Gv hU))
   rw[if_neg (by omega),if_pos (by omega),hUi,FK]
   simp only[decide_eq_true JX,cond_true,N9,jj7 b (jh (b.N U (Gv hU)).2) hj,ob,Mu hM,hg,decide_eq_false bB,cond_false,decide_true]
   rw[JX]
  ·have bB:¬((g.units.getD [])[i]).name=n:=by
    rw[←JX]
    exact NP (key:=fun x:aW=>x.name) w.units (a:=((g.units.getD [])[i]).er) (b:=U.er) (by rw[mX,Gn,hx];rfl) (by rw[mX,Gn,hU];rfl) fC
   have mN:jn dl (yg M n U) ((g.units.getD [])[i]).name=jn dl M ((g.units.getD [])[i]).name:=by rw[B5,if_neg bB]
   have HN:jn dl (if iu<i then yg M n U else M) ((g.units.getD [])[i]).name=jn dl M ((g.units.getD [])[i]).name:=by
    by_cases hq:iu<i
    ·rw[if_pos hq,mN]
    ·rw[if_neg hq]
   have hq:(if iu<i+1 then yg M n U else M)=if iu<i then yg M n U else M:=by
    by_cases hq:iu<i
    ·rw[if_pos hq,if_pos (by omega)]
    ·rw[if_neg hq,if_neg (by omega)]
   simp only[decide_eq_false bB,cond_false,HN,hq]
   have c1:((g.units.getD [])[i]).shipped=Gq↔(jn dl M ((g.units.getD [])[i]).name).name≠[]:=by rw[←mN];exact c1
   have c2:((g.units.getD [])[i]).shipped=Gq→N8 (jn dl M ((g.units.getD [])[i]).name).er ((g.units.getD [])[i]).er:=by rw[←mN];exact c2
   exact q6r c1 c2) (by
  unfold xt
  simp only[zr,cond_false,if_pos br])
 rw[if_neg (Nat.not_lt_zero _)]at this
 exact this
theorem jga:yt kw=I (1,1):=by decide
theorem j2c {e:GEv}(hc:zf e.er=0)(hk:e.er.kind=kw):qr (e.names.getD []) 0=I (nm e.er 0):=by
 obtain⟨_,f,f1,f2,f3⟩:=Js hc
 rw[hk,jga]at f1
 cases f1
 have f2:(e.names.getD []).length=1:=f2
 unfold nm
 show qr (e.names.getD []) ((0:Nat):Int)=I (((e.names.getD [])[0]?).getD [])
 rw[jb (Ey (by omega)),Ey (by omega)]
 rfl
def YO (L:List GEv)(i:Nat)(M:List (List UInt8×ay)):Prop:=M.length≤i∧∃q,run (qe .i64) ((L.map GEv.er).take i)=.ok q∧bZ (CO M) (now q)
theorem jfy {a0:Option (List GEv)}{L:List GEv}{h}(hL:a0.getD []=L)(j:fp (I L) h)(hn:L.length≤24){i:Nat}{M}(hi:i<L.length)(iv:YO L i M):∃M',wm a0 ((i:Int),M)=I (.inl (((i+1:Nat):Int),M'))∧YO L (i+1) M':=by
 obtain⟨hM,q,EF,v⟩:=iv
 have hx:=Ey hi
 have hS:L.length≤SM:=by unfold SM;omega
 have hr:=j.hr
 simp only[Gt]at hr
 obtain⟨qq,q',r1,r2,hc,ha⟩:=jk0 hr (i:=i) (e:=(L[i]).er) (by rw[Gn,hx];rfl)
 have hqq:qq=q:=by rw[EF]at r1;exact(Except.ok.inj r1).symm
 rw[hqq]at r1 ha
 obtain⟨c1,k1,k2⟩:=NJ (o:=a0) (k:=i) (by rw[hL];omega)
 obtain⟨c2,k3,k4⟩:=NJ (o:=a0) (k:=i+1) (by rw[hL];omega)
 rw[hL]at k2 k4
 have j1:fp c1 q:=⟨fun e he=>j.hb e (by rw[k2]at he;exact Gw he),by rw[k2,G6];exact r1⟩
 have j2:fp c2 q':=⟨fun e he=>j.hb e (by rw[k4]at he;exact Gw he),by rw[k4,G6];exact r2⟩
 obtain⟨gB,B1,B2,B3⟩:=j1.cq
 obtain⟨gA,A1,A2,A3⟩:=j2.cq
 obtain⟨n1,n2,n3⟩:=j1.few (n:=24) (by rw[k2,Gy];omega)
 obtain⟨m1,m2,m3⟩:=j2.few (n:=24) (by rw[k4,Gy];omega)
 have hBl:(gB.lots.getD []).length≤24:=by rw[←B2]at n1;exact n1
 have hAl:(gA.lots.getD []).length≤24:=by rw[←A2]at m1;exact m1
 have hAu:(gA.units.getD []).length≤24:=by rw[←A2,mX,Gz]at m2;exact m2
 have wA:eX gA.er:=by rw[A2];exact j2.xj
 have cK:wm a0 ((i:Int),M)=cond (decide ((L[i]).kind=([115,104,105,112]:List UInt8)))
        (qa (qr ((L[i]).names.getD []) 0) fun nU=>
        qa (f24 c1 nU) fun sC=>
        qa (f21 c1 nU) fun eI=>
        qa (f25 c1 nU) fun CG=>
        cond (decide (CG=0))
         (cond (decide (sC.2=0))
          (cond (decide (eI.2=0))
           (cond (decide (((sC.1.getD []).length:Int)=0))
            (qa (bm (xr a0 ((i:Int),M) (L[i]) (gB,0,0) (gA,0,0) eI) 0) fun CH=>match CH with
             | .inl YJ=>
              I (.inr (.inl M))
             | .inr YK=>
              qa (bm (xt a0 ((i:Int),M) (L[i]) (gA,0,0)) (0,M)) fun CI=>match CI with
               | .inl CJ=>
                I (.inr (.inl CJ))
               | .inr CK=>
                I (.inl (((i+1:Nat):Int),CK.2)))
            (I (.inr (.inl M))))
           (I (.inr (.inl M))))
          (I (.inr (.inl M))))
         (I (.inr (.inl M))))
        (qa (bm (xu a0 ((i:Int),M) (L[i]) (gA,0,0)) (0,M)) fun CL=>match CL with
         | .inl CM=>
          I (.inr (.inl CM))
         | .inr CN=>
          I (.inl (((i+1:Nat):Int),CN.2))):=by
  unfold wm
  rw[hL]
  simp only[ye hi,cond_true,jb hx,ob,k1,B1,oL hi hS,k3,A1,decide_true,decide_eq_false (show ¬(24:Int)<((gA.units.getD []).length:Int) by omega),decide_eq_false (show ¬(24:Int)<((gA.lots.getD []).length:Int) by omega),decide_eq_false (show ¬(24:Int)<((gB.lots.getD []).length:Int) by omega),cond_false] <;>rfl
 rw[cK]
 by_cases hk:(L[i]).kind=([115,104,105,112]:List UInt8)
 case neg=>
  have v':bZ (CO M) gA.er:=by rw[A2];exact v.step j1.ok ha hk
  rw[decide_eq_false hk,cond_false,jcl hk hAu wA v',ob]
  exact⟨M,rfl,by omega,q',r2,by rw[←A2];exact v'⟩
 have hku:(L[i]).er.kind≠mT:=by rw[show(L[i]).er.kind=(L[i]).kind from rfl,hk];decide
 rcases qp3 j1.ok ha with⟨_,haf⟩|⟨hu,_⟩
 case inr=>exact absurd hu hku
 obtain⟨iu,u,u1,u2,u3,u4,u5,u6⟩:=jdh hk haf
 have Bx:=j2c hc hk
 obtain⟨o1,o2,⟨d,d1,d2⟩,o4⟩:=j1.made u1 u2
 obtain⟨y1,⟨d',y2,y3⟩,y4,y5⟩:=q3v u3
 rw[d1]at y2
 cases y2
 obtain⟨z,z1,z2,z3,_⟩:=bg u1
 rw[u2]at z1
 cases z1
 have qR:u.name=nm (L[i]).er 0:=of_decide_eq_true z2
 have bw:(now q').units[iu]?=I { u with shipped:=Gq }:=by rw[u4,List.getElem?_set_self z3]
 rw[←A2,mX,Gn]at bw
 cases hU:(gA.units.getD [])[iu]? with
 |none=>rw[hU]at bw;cases bw
 |some U=>
 rw[hU]at bw
 have FK:U.er={ u with shipped:=Gq }:=I.inj bw
 have JX:U.name=nm (L[i]).er 0:=by rw[←qR];exact congrArg aW.name FK
 have N9:U.shipped=Gq:=congrArg aW.shipped FK
 have v':bZ (CO (yg M (nm (L[i]).er 0) U)) gA.er:=by
  rw[jg0,FK,A2]
  exact v.YP j1.xj u1 u2 u4
 have hj:wi U.er gA.er.ae=Gq:=by
  rw[FK,A2,u5]
  exact q5j u3
 have JY:bm (xr a0 ((i:Int),M) (L[i]) (gB,0,0) (gA,0,0) (jl (u.uses.map (·.k)),0)) 0=I (.inr ((gB.lots.getD []).length:Int)):=by
  have hBS:(gB.lots.getD []).length≤SM:=by unfold SM;omega
  have:=sA (f:=xr a0 ((i:Int),M) (L[i]) (gB,0,0) (gA,0,0) (jl (u.uses.map (·.k)),0)) (fun i=>(i:Int)) (n:=(gB.lots.getD []).length) (d:=.inr ((gB.lots.getD []).length:Int)) (fun p hp=>by
   have hy:=Ey hp
   unfold xr
   simp only[ye hp,cond_true,jb hy,ob,oL hp hBS]
   cases hh:((gB.lots.getD [])[p]).held with
   |false=>rfl
   |true=>
    have:=jew j1.xj y5 (x:=(gB.lots.getD [])[p]) (by rw[←B2];exact Gs hp) hh
    rw[cond_true,Yn (by rw[j8,Gz];exact o4),j8,this]
    rfl) (by
   unfold xr
   simp only[zr,cond_false])
  exact this
 rw[decide_eq_true hk,cond_true,Bx,ob,d2,ob,o1,ob,o2,ob,u3]
 dsimp only
 rw[decide_eq_true rfl,cond_true,cond_true,cond_true,decide_eq_true (by rw[j8,y3];rfl),cond_true,JY,ob]
 dsimp only
 rw[jbc hk Bx hAu (by omega) A3 wA hU JX N9 hj v',ob]
 refine⟨yg M (nm (L[i]).er 0) U,rfl,?_,q',r2,by rw[←A2];exact v'⟩
 have:=Ij (l:=M) (k:=nm (L[i]).er 0) (v:=U)
 omega
theorem jrr (a0:Option (List GEv)):f6 a0=I Gq:=by
 obtain⟨b1,p1,k1⟩:=jfr (l:=a0) (n:=24) (by omega)
 unfold f6
 rw[show f11 a0 24=I b1 from p1,ob]
 cases b1 with
 |false=>rfl
 |true=>
 rw[cond_true]
 obtain⟨hn,h,j⟩:=k1 rfl
 obtain⟨L,hL⟩:∃L,a0.getD []=L:=⟨_,rfl⟩
 have j':fp (I L) h:=⟨by rw[Gt,←hL];exact j.hb,by rw[Gt,←hL];exact j.hr⟩
 have hn:L.length≤24:=by rw[hL]at hn;omega
 have key:∀(k i:Nat) (M:List (List UInt8×ay)),i+k=L.length→YO L i M→∃d,bm (wm a0) ((i:Int),M)=I (.inr d):=by
  intro k
  induction k with
  |zero=>
   intro i M hi iv
   refine⟨((i:Int),M),ki ?_⟩
   unfold wm
   rw[hL,show i=L.length by omega]
   simp only[zr,cond_false]
  |succ k ih=>
   intro i M hi iv
   obtain⟨M',s1,s2⟩:=jfy hL j' hn (by omega) iv
   rw[oA s1]
   exact ih (i+1) M' (by omega) s2
 obtain⟨d,hd⟩:=key L.length 0 [] (by omega) ⟨Nat.le_refl _,([],[mb]),rfl,bZ.empty (fun _=>rfl) rfl⟩
 rw[show bm (wm a0) (0,[])=I (.inr d)from hd]
 rfl
theorem I6 (a0:Option (List GEv)):qc dp (X dp) 6 [sl 5 vev a0]=I (.bool Gq,En):=W6 (jrr a0)
end Go.Z
end
