/- Chapter 10. -/
import Derived.Test.YtimdocpnkimlfaaGreatDoorAZ
import Derived.Test.YtimdocpnkimlfaaGreatDoorEF
set_option linter.unusedVariables false
set_option linter.unusedSimpArgs false
set_option maxRecDepth 100000
set_option maxHeartbeats 4000000
noncomputable section
open Bool renaming false→I,false_beq→Gr,not_false→Gs,true_beq→Gv,not_true→Gw,not_not→Gx
open Option renaming some→En,getD_some→Gm
open List renaming getElem?_eq_getElem→E3,length_map→Ga,mem_map_of_mem→Gd,length_filter_le→Gg,mem_of_getElem?→Gh,getElem?_map→Gl,getElem_mem→Gp,map→Gq
open Nat renaming le_trans→Gc,mod_lt→Gi
namespace Go.Z
open Go Go.Abs Go.W
theorem j3l {a0:Option (List GEv)}{a1:Int}{r}(h:f11 a0 a1=En r):qc gA (X gA) 11 [sl 5 vev a0,Iv a1]=En (.bool r,I):=Dp rfl rfl (W11 h) (by first|rfl|simp only[go_sem,seval])
theorem j2x {a0:Option (List GEv)}{r}(h:f16 a0=En r):qc gA (X gA) 16 [sl 5 vev a0]=En (.aC [aR r.1,Iv r.2.1,Iv r.2.2],I):=Dp rfl rfl (Ni h) (by first|rfl|simp only[go_sem,seval])
theorem j1i {a0:Option (List GEv)}{a1:Option (List (List UInt8))}{r}(h:f20 a0 a1=En r):qc gA (X gA) 20 [sl 5 vev a0,sl 1 jd a1]=En (.aC [sl 1 jd r.1,Iv r.2],I):=Dp rfl rfl (W20 h) (by first|rfl|simp only[go_sem,seval])
theorem jmt {a0:Option (List GEv)}{a1:List UInt8}{r}(h:f21 a0 a1=En r):qc gA (X gA) 21 [sl 5 vev a0,.str a1]=En (.aC [sl 1 jd r.1,Iv r.2],I):=Dp rfl rfl (W21 h) (by first|rfl|simp only[go_sem,seval])
theorem XM {a0:Option (List (List UInt8))}{a1:List UInt8}{r}(h:f22 a0 a1=En r):qc gA (X gA) 22 [sl 1 jd a0,.str a1]=En (.bool r,I):=Dp rfl rfl (W22 h) (by first|rfl|simp only[go_sem,seval])
theorem j45 {a0:Option (List GEv)}{a1:Option (List (List UInt8))}{r}(h:f23 a0 a1=En r):qc gA (X gA) 23 [sl 5 vev a0,sl 1 jd a1]=En (.aC [sl 1 jd r.1,Iv r.2],I):=Dp rfl rfl (W23 h) (by first|rfl|simp only[go_sem,seval])
def zS (a0:Option (List GEv))(a1:G2)(v4:au×Int×Int)(ew:ja)(v23:(Option (List (List UInt8)))×Int)(v25:(Option (List (List UInt8)))×Int)(dW:(Option (List (List UInt8)))×Int)(s0:Int×(List (List UInt8×Bool))):Option ((Int×(List (List UInt8×Bool)))⊕(((List (List UInt8×Bool)))⊕(Int×(List (List UInt8×Bool))))):=
 cond (decide (s0.1<((v4.1.units.getD []).length:Int)))
  (qa (qq (v4.1.units.getD []) s0.1) fun Nj=>
  qa (f21 a0 Nj.name) fun v68=>
  cond (decide (v68.2=0))
   (cond Nj.aj
    (qa (f22 v68.1 ew.name) fun v72=>
    qa (yT s0.2 Nj.name v72) fun XO=>
    En (.inl (qe .i64 (s0.1+1),XO)))
    (qa (yT s0.2 Nj.name I) fun v76=>
    En (.inl (qe .i64 (s0.1+1),v76))))
   (En (.inr (.inl s0.2))))
  (En (.inr (.inr (s0.1,s0.2))))
def Nk (a0:Option (List GEv))(a1:G2)(v4:au×Int×Int)(ew:ja)(v23:(Option (List (List UInt8)))×Int)(v25:(Option (List (List UInt8)))×Int)(dW:(Option (List (List UInt8)))×Int)(s0:Int×(List (List UInt8×Bool))):bf:=⟨[(0,sl 5 vev a0,I),(3,.ah (.agg [.int .u8 a1.x,.int .u8 a1.y]),I),(5,.ah (aR v4.1),I),(8,.str ew.name,I),(10,sl 1 jd v23.1,I),(12,sl 1 jd v25.1,I),(14,sl 1 jd dW.1,I),(18,.map 0,I),(158,sl 8 bj v4.1.units,I),(159,Lv v4.1.units,I),(160,Iv s0.1,I)],[.map (fj AVal.bool s0.2)]⟩
def Nn (a0:Option (List GEv))(a1:G2)(v4:au×Int×Int)(ew:ja)(v23:(Option (List (List UInt8)))×Int)(v25:(Option (List (List UInt8)))×Int)(dW:(Option (List (List UInt8)))×Int):((List (List UInt8×Bool)))⊕(Int×(List (List UInt8×Bool)))→jg×bf
 | .inl d=>(.ret,⟨[(4,.bool I,I)],[.map (fj AVal.bool d)]⟩)
 | .inr d=>(.exit 0,⟨[(0,sl 5 vev a0,I),(3,.ah (.agg [.int .u8 a1.x,.int .u8 a1.y]),I),(5,.ah (aR v4.1),I),(8,.str ew.name,I),(10,sl 1 jd v23.1,I),(12,sl 1 jd v25.1,I),(14,sl 1 jd dW.1,I),(18,.map 0,I),(158,sl 8 bj v4.1.units,I),(159,Lv v4.1.units,I),(160,Iv d.1,I),(161,.bool I,I)],[.map (fj AVal.bool d.2)]⟩)
theorem zf7 (a0:Option (List GEv))(a1:G2)(v4:au×Int×Int)(ew:ja)(v23:(Option (List (List UInt8)))×Int)(v25:(Option (List (List UInt8)))×Int)(dW:(Option (List (List UInt8)))×Int)(s0:Int×(List (List UInt8×Bool)))(r)(h:zS a0 a1 v4 ew v23 v25 dW s0=En r):jz gA Np (Nk a0 a1 v4 ew v23 v25 dW) (Nn a0 a1 v4 ew v23 v25 dW) s0 r:=by
 unfold zS at h
 repeat' first|(replace h:=qb h;obtain⟨d,g,h⟩:=h;with_reducible first|replace g:=jmt g|replace g:=XM g|replace g:=zea g|skip)|(replace h:=qd h;rcases h with⟨g,h⟩|⟨g,h⟩)
 all_goals (cases h<;>((first|refine qz ?_|refine ju ?_);simp only[go_sem,seval,Np,Nk,jh,Nn, *]<;>rfl))
theorem zjr (a0:Option (List GEv))(a1:G2)(v4:au×Int×Int)(ew:ja)(v23:(Option (List (List UInt8)))×Int)(v25:(Option (List (List UInt8)))×Int)(dW:(Option (List (List UInt8)))×Int){s0:Int×(List (List UInt8×Bool))}{d}(h:bz (zS a0 a1 v4 ew v23 v25 dW) s0=En d):X gA (.loop Np) (Nk a0 a1 v4 ew v23 v25 dW s0)=En (Nn a0 a1 v4 ew v23 v25 dW d):=zn (zf7 a0 a1 v4 ew v23 v25 dW) h
def B8 (a0:Option (List GEv))(a1:G2)(v4:au×Int×Int)(v23:(Option (List (List UInt8)))×Int)(v25:(Option (List (List UInt8)))×Int)(dW:(Option (List (List UInt8)))×Int)(d81:Int×(List (List UInt8×Bool)))(s1:Int):Option (Int⊕(Unit⊕Int)):=
 cond (decide (s1<((v4.1.units.getD []).length:Int)))
  (qa (qq (v4.1.units.getD []) s1) fun iw=>
  cond iw.aj
   (cond (nJ I d81.2 iw.name)
    (qa (f22 v23.1 iw.name) fun v159=>
    cond v159
     (qa (f22 dW.1 iw.name) fun v162=>
     cond v162
      (En (.inl (qe .i64 (s1+1))))
      (En (.inr (.inl ()))))
     (En (.inr (.inl ()))))
    (qa (f22 v23.1 iw.name) fun Jn=>
    cond (nJ I d81.2 iw.partner)
     (cond Jn
      (qa (f22 dW.1 iw.name) fun XP=>
      cond XP
       (En (.inl (qe .i64 (s1+1))))
       (En (.inr (.inl ()))))
      (En (.inr (.inl ()))))
     (cond Jn
      (En (.inr (.inl ())))
      (qa (f22 dW.1 iw.name) fun v173=>
      qa (f22 v25.1 iw.name) fun v175=>
      cond v173
       (cond v175
        (En (.inl (qe .i64 (s1+1))))
        (En (.inr (.inl ()))))
       (cond v175
        (En (.inr (.inl ())))
        (En (.inl (qe .i64 (s1+1)))))))))
   (qa (f22 v23.1 iw.name) fun XQ=>
   cond XQ
    (En (.inr (.inl ())))
    (qa (f22 dW.1 iw.name) fun v183=>
    qa (f22 v25.1 iw.name) fun Jo=>
    cond v183
     (cond Jo
      (En (.inl (qe .i64 (s1+1))))
      (En (.inr (.inl ()))))
     (cond Jo
      (En (.inr (.inl ())))
      (En (.inl (qe .i64 (s1+1))))))))
  (En (.inr (.inr s1)))
def Nq (a0:Option (List GEv))(a1:G2)(v4:au×Int×Int)(v23:(Option (List (List UInt8)))×Int)(v25:(Option (List (List UInt8)))×Int)(dW:(Option (List (List UInt8)))×Int)(d81:Int×(List (List UInt8×Bool)))(s1:Int):bf:=⟨[(0,sl 5 vev a0,I),(3,.ah (.agg [.int .u8 a1.x,.int .u8 a1.y]),I),(5,.ah (aR v4.1),I),(10,sl 1 jd v23.1,I),(12,sl 1 jd v25.1,I),(14,sl 1 jd dW.1,I),(18,.map 0,I),(185,sl 8 bj v4.1.units,I),(186,Lv v4.1.units,I),(187,Iv s1,I)],[.map (fj AVal.bool d81.2)]⟩
def Nr (a0:Option (List GEv))(a1:G2)(v4:au×Int×Int)(v23:(Option (List (List UInt8)))×Int)(v25:(Option (List (List UInt8)))×Int)(dW:(Option (List (List UInt8)))×Int)(d81:Int×(List (List UInt8×Bool))):Unit⊕Int→jg×bf
 | .inl d=>(.ret,⟨[(4,.bool I,I)],[.map (fj AVal.bool d81.2)]⟩)
 | .inr d=>(.exit 2,⟨[(0,sl 5 vev a0,I),(3,.ah (.agg [.int .u8 a1.x,.int .u8 a1.y]),I),(5,.ah (aR v4.1),I),(10,sl 1 jd v23.1,I),(12,sl 1 jd v25.1,I),(14,sl 1 jd dW.1,I),(18,.map 0,I),(185,sl 8 bj v4.1.units,I),(186,Lv v4.1.units,I),(187,Iv d,I),(188,.bool I,I)],[.map (fj AVal.bool d81.2)]⟩)
theorem zd0 (a0:Option (List GEv))(a1:G2)(v4:au×Int×Int)(v23:(Option (List (List UInt8)))×Int)(v25:(Option (List (List UInt8)))×Int)(dW:(Option (List (List UInt8)))×Int)(d81:Int×(List (List UInt8×Bool)))(s1:Int)(r)(h:B8 a0 a1 v4 v23 v25 dW d81 s1=En r):jz gA Ns (Nq a0 a1 v4 v23 v25 dW d81) (Nr a0 a1 v4 v23 v25 dW d81) s1 r:=by
 unfold B8 at h
 repeat' first|(replace h:=qb h;obtain⟨d,g,h⟩:=h;with_reducible first|replace g:=XM g|skip)|(replace h:=qd h;rcases h with⟨g,h⟩|⟨g,h⟩)
 all_goals (cases h<;>((first|refine qz ?_|refine ju ?_);simp only[go_sem,seval,Ns,Nq,jh,jpw,Gv,Gr,Gw,Gs,Gx,Nr, *]<;>rfl))
theorem zb6 (a0:Option (List GEv))(a1:G2)(v4:au×Int×Int)(v23:(Option (List (List UInt8)))×Int)(v25:(Option (List (List UInt8)))×Int)(dW:(Option (List (List UInt8)))×Int)(d81:Int×(List (List UInt8×Bool))){s1:Int}{d}(h:bz (B8 a0 a1 v4 v23 v25 dW d81) s1=En d):X gA (.loop Ns) (Nq a0 a1 v4 v23 v25 dW d81 s1)=En (Nr a0 a1 v4 v23 v25 dW d81 d):=zn (zd0 a0 a1 v4 v23 v25 dW d81) h
def B9 (v4:au×Int×Int)(d81:Int×(List (List UInt8×Bool)))(eZ:(Option (List (List UInt8)))×Int)(fa:(Option (List (List UInt8)))×Int)(v206:(Option (List (List UInt8)))×Int)(s2:Int):Option (Int⊕(Unit⊕Int)):=
 cond (decide (s2<((v4.1.ar.getD []).length:Int)))
  (qa (qq (v4.1.ar.getD []) s2) fun Cb=>
  qa (f22 eZ.1 Cb.name) fun Jp=>
  qa (f22 fa.1 Cb.name) fun XR=>
  cond XR
   (qa (f22 v206.1 Cb.name) fun Jq=>
   cond Jp
    (cond Jq
     (En (.inl (qe .i64 (s2+1))))
     (En (.inr (.inl ()))))
    (cond Jq
     (En (.inr (.inl ())))
     (En (.inl (qe .i64 (s2+1))))))
   (cond Jp
    (En (.inr (.inl ())))
    (En (.inl (qe .i64 (s2+1))))))
  (En (.inr (.inr s2)))
def Nt (v4:au×Int×Int)(d81:Int×(List (List UInt8×Bool)))(eZ:(Option (List (List UInt8)))×Int)(fa:(Option (List (List UInt8)))×Int)(v206:(Option (List (List UInt8)))×Int)(s2:Int):bf:=⟨[(28,sl 1 jd eZ.1,I),(30,sl 1 jd fa.1,I),(32,sl 1 jd v206.1,I),(284,sl 5 jb v4.1.ar,I),(285,Lv v4.1.ar,I),(286,Iv s2,I)],[.map (fj AVal.bool d81.2)]⟩
def Nu (v4:au×Int×Int)(d81:Int×(List (List UInt8×Bool)))(eZ:(Option (List (List UInt8)))×Int)(fa:(Option (List (List UInt8)))×Int)(v206:(Option (List (List UInt8)))×Int):Unit⊕Int→jg×bf
 | .inl d=>(.ret,⟨[(4,.bool I,I)],[.map (fj AVal.bool d81.2)]⟩)
 | .inr d=>(.exit 4,⟨[(28,sl 1 jd eZ.1,I),(30,sl 1 jd fa.1,I),(32,sl 1 jd v206.1,I),(284,sl 5 jb v4.1.ar,I),(285,Lv v4.1.ar,I),(286,Iv d,I),(287,.bool I,I)],[.map (fj AVal.bool d81.2)]⟩)
theorem zkd (v4:au×Int×Int)(d81:Int×(List (List UInt8×Bool)))(eZ:(Option (List (List UInt8)))×Int)(fa:(Option (List (List UInt8)))×Int)(v206:(Option (List (List UInt8)))×Int)(s2:Int)(r)(h:B9 v4 d81 eZ fa v206 s2=En r):jz gA Nv (Nt v4 d81 eZ fa v206) (Nu v4 d81 eZ fa v206) s2 r:=by
 unfold B9 at h
 repeat' first|(replace h:=qb h;obtain⟨d,g,h⟩:=h;with_reducible first|replace g:=XM g|skip)|(replace h:=qd h;rcases h with⟨g,h⟩|⟨g,h⟩)
 all_goals (cases h<;>((first|refine qz ?_|refine ju ?_);simp only[go_sem,seval,Nv,Nt,jh,Gv,Gr,Gw,Gs,Gx,Nu, *]<;>rfl))
theorem zgx (v4:au×Int×Int)(d81:Int×(List (List UInt8×Bool)))(eZ:(Option (List (List UInt8)))×Int)(fa:(Option (List (List UInt8)))×Int)(v206:(Option (List (List UInt8)))×Int){s2:Int}{d}(h:bz (B9 v4 d81 eZ fa v206) s2=En d):X gA (.loop Nv) (Nt v4 d81 eZ fa v206 s2)=En (Nu v4 d81 eZ fa v206 d):=zn (zkd v4 d81 eZ fa v206) h
def f5 (a0:Option (List GEv))(a1:G2):Option Bool:=
 qa (f11 a0 24) fun v1=>
 cond v1
  (qa (f16 a0) fun v4=>
  cond (decide (v4.2.2=0))
   (cond (decide (24<((v4.1.units.getD []).length:Int)))
    (En I)
    (cond (decide (24<((v4.1.ar.getD []).length:Int)))
     (En I)
     (cond (decide (((v4.1.ar.getD []).length:Int)=0))
      (qa (Ff) fun v10=>
      En v10)
      (cond (decide (((v4.1.units.getD []).length:Int)=0))
       (qa (Ff) fun ey=>
       En ey)
       (qa (wN (qe .i64 a1.x) ((v4.1.ar.getD []).length:Int)) fun fk=>
       qa (qq (v4.1.ar.getD []) fk) fun ew=>
       qa (wN (qe .i64 a1.y) ((v4.1.ar.getD []).length:Int)) fun l4=>
       qa (qq (v4.1.ar.getD []) l4) fun v21=>
       qa (f20 a0 (En [ew.name])) fun v23=>
       qa (f20 a0 (En [v21.name])) fun v25=>
       qa (f20 a0 (En [ew.name,v21.name])) fun dW=>
       qa (f20 a0 none) fun fb=>
       cond (decide (v23.2=0))
        (cond (decide (v25.2=0))
         (cond (decide (dW.2=0))
          (cond (decide (fb.2=0))
           (cond (decide (((fb.1.getD []).length:Int)=0))
            (cond (decide (24<((v23.1.getD []).length:Int)))
             (En I)
             (cond (decide (24<((v25.1.getD []).length:Int)))
              (En I)
              (cond (decide (24<((dW.1.getD []).length:Int)))
               (En I)
               (qa (bz (zS a0 a1 v4 ew v23 v25 dW) (0,[])) fun d78=>match d78 with
                | .inl d80=>
                 En I
                | .inr d81=>
                 qa (bz (B8 a0 a1 v4 v23 v25 dW d81) 0) fun zC=>match zC with
                  | .inl d192=>
                   En I
                  | .inr Ie=>
                   qa (wN (qe .i64 a1.x) ((v4.1.units.getD []).length:Int)) fun v194=>
                   qa (qq (v4.1.units.getD []) v194) fun v196=>
                   qa (wN (qe .i64 a1.y) ((v4.1.units.getD []).length:Int)) fun v198=>
                   qa (qq (v4.1.units.getD []) v198) fun Jr=>
                   qa (f23 a0 (En [v196.name,Jr.name])) fun eZ=>
                   qa (f21 a0 v196.name) fun fa=>
                   qa (f21 a0 Jr.name) fun v206=>
                   cond (decide (eZ.2=0))
                    (cond (decide (fa.2=0))
                     (cond (decide (v206.2=0))
                      (qa (bz (B9 v4 d81 eZ fa v206) 0) fun d253=>match d253 with
                       | .inl d255=>
                        En I
                       | .inr d256=>
                        qa (Ff) fun XS=>
                        En XS)
                      (En I))
                     (En I))
                    (En I)))))
            (En I))
           (En I))
          (En I))
         (En I))
        (En I))))))
   (En I))
  (qa (Ff) fun XT=>
  En XT)
theorem W5 {a0:Option (List GEv)}{a1:G2}{r}(h:f5 a0 a1=En r):qc gA (X gA) 5 [sl 5 vev a0,.agg [.int .u8 a1.x,.int .u8 a1.y]]=En (.bool r,I):=by
 unfold f5 at h
 refine zi c5 ?_
 repeat' first|(replace h:=qb h;obtain⟨d,g,h⟩:=h; (with_reducible first|replace g:=j3l g|replace g:=j2x g|replace g:=Q8 g|replace g:=j1i g|replace g:=j45 g|replace g:=jmt g|replace g:=ju3 g|(replace g:=zjr a0 a1 _ _ _ _ _ g;rcases d with d|d<;>dsimp only[Nk,Nn,zm,jB,Gq,zw,jd,jb,qu,bj,zh,vev,bm,q9,yd]at g h)|(replace g:=zb6 a0 a1 _ _ _ _ _ g;rcases d with d|d<;>dsimp only[Nq,Nr,zm,jB,Gq,zw,jd,jb,qu,bj,zh,vev,bm,q9,yd]at g h)|(replace g:=zgx _ _ _ _ _ g;rcases d with d|d<;>dsimp only[Nt,Nu,zm,jB,Gq,zw,jd,jb,qu,bj,zh,vev,bm,q9,yd]at g h)|skip);try dsimp only[zm,jB,Gq,zw,jd,jb,qu,bj,zh,vev,bm,q9,yd,aE,aR,aU,aL,aP,aD]at g)|(replace h:=qd h;rcases h with⟨g,h⟩|⟨g,h⟩)
 all_goals (cases h<;>(simp only[go_sem,seval,c5,jh,jku (h0:=0) (r:=0), *];exact⟨_,rfl⟩))
end Go.Z
namespace Go.Z
open Go Go.Abs Go.W
theorem qow {a:List UInt8}:∀ {l:List aY} {M:List (List UInt8×Bool)},(ke a M l).length≤M.length+l.length
 | [],M=>Nat.le_refl _
 |u::l,M=>by
  show(ke a (hE M u.name (u.aj&&yn u.er a)) l).length≤_
  have h1:=qow (a:=a) (l:=l) (M:=hE M u.name (u.aj&&yn u.er a))
  have h2:=q5a (l:=M) (k:=u.name) (v:=u.aj&&yn u.er a)
  rw[List.length_cons];omega
theorem Nw {S:jq}{L:List (List UInt8)}:(pY S L).length≤S.units.length:=by
 unfold pY
 rw[Ga]
 exact Gg _ _
theorem XU {S:jq}(w:eM S){x:Option (List (List UInt8))}{L:List (List UInt8)}(hx:x.getD []=pY S L)(hl:S.units.length≤SM){u:aY}(hu:u.er∈S.units):f22 x u.name=En (kq S L u.er):=by
 rw[Um (by rw[hx];exact Gc Nw hl),hx]
 exact congrArg En (q27 w (u:=u.er) hu)
theorem jpe (a0:Option (List GEv))(a1:G2)(Nx:0≤a1.x∧a1.x≤255)(Ny:0≤a1.y∧a1.y≤255):f5 a0 a1=En true:=by
 obtain⟨b1,p1,k1⟩:=jv5 (l:=a0) (n:=24) (by omega)
 unfold f5
 rw[show f11 a0 24=En b1 from p1,ob]
 cases b1 with
 |false=>rfl
 |true=>
 rw[cond_true]
 obtain⟨hn,h,j⟩:=k1 rfl
 have hn:(a0.getD []).length≤24:=by omega
 obtain⟨g,g1,g2,g3⟩:=j.cm
 have w2:=j.BK
 obtain⟨n1,n2,n3⟩:=j.few hn
 have hU:(now h).units=(g.units.getD []).map aY.er:=by rw[←g2];rfl
 have Js:(now h).ar=g.ar.getD []:=by rw[←g2];rfl
 rw[hU,Ga]at n2
 rw[Js]at n1
 have XV:(now h).units.length≤SM:=by rw[hU,Ga];unfold SM;omega
 have hwx:qe .i64 a1.x=a1.x:=LP (by omega) (by omega)
 have hwy:qe .i64 a1.y=a1.y:=LP (by omega) (by omega)
 rw[g1,ob]
 dsimp only
 rw[decide_eq_true rfl,cond_true,decide_eq_false (by omega),cond_false,decide_eq_false (by omega),cond_false,hwx,hwy]
 by_cases xW:(g.ar.getD []).length=0
 ·rw[decide_eq_true (by omega)];rfl
 by_cases hu0:(g.units.getD []).length=0
 ·rw[decide_eq_false (by omega),cond_false,decide_eq_true (by omega)];rfl
 rw[decide_eq_false (by omega),cond_false,decide_eq_false (by omega),cond_false]
 obtain⟨A,hA⟩:∃A,(g.ar.getD [])[a1.x.toNat % (g.ar.getD []).length]?=En A:=⟨_,E3 (Gi _ (by omega))⟩
 obtain⟨B,hB⟩:∃B,(g.ar.getD [])[a1.y.toNat % (g.ar.getD []).length]?=En B:=⟨_,E3 (Gi _ (by omega))⟩
 obtain⟨U,Nz⟩:∃U,(g.units.getD [])[a1.x.toNat % (g.units.getD []).length]?=En U:=⟨_,E3 (Gi _ (by omega))⟩
 obtain⟨V,NA⟩:∃V,(g.units.getD [])[a1.y.toNat % (g.units.getD []).length]?=En V:=⟨_,E3 (Gi _ (by omega))⟩
 have kA:(zf (now h) A.name).isSome=true:=by rw[qui w2 (by rw[Js];exact hA)];rfl
 have kB:(zf (now h) B.name).isSome=true:=by rw[qui w2 (by rw[Js];exact hB)];rfl
 obtain⟨x,x1,x2⟩:=j.lh (L:=En [A.name]) (by simp) (by simpa using kA)
 obtain⟨y,y1,y2⟩:=j.lh (L:=En [B.name]) (by simp) (by simpa using kB)
 obtain⟨z,z1,z2⟩:=j.lh (L:=En [A.name,B.name]) (by simp) (by simp[kA,kB])
 obtain⟨o,o1,o2⟩:=j.lh (L:=none) (by simp) (by simp)
 simp only[Gm,Option.getD_none]at x2 y2 z2 o2
 rw[q2c]at o2
 have lx:(x.getD []).length≤24:=by rw[x2];exact Gc Nw (by rw[hU,Ga];exact n2)
 have ly:(y.getD []).length≤24:=by rw[y2];exact Gc Nw (by rw[hU,Ga];exact n2)
 have lz:(z.getD []).length≤24:=by rw[z2];exact Gc Nw (by rw[hU,Ga];exact n2)
 rw[MI Nx.1 xW,ob,jc hA,ob,MI Ny.1 xW,ob,jc hB,ob,x1,ob,y1,ob,z1,ob,o1,ob]
 dsimp only
 rw[decide_eq_true rfl,cond_true,cond_true,cond_true,cond_true]
 rw[decide_eq_true (by rw[o2];rfl),cond_true,decide_eq_false (by omega),cond_false,decide_eq_false (by omega),cond_false,decide_eq_false (by omega),cond_false]
 have hS:(g.units.getD []).length≤SM:=by unfold SM;omega
 have w0:bz (zS a0 a1 (g,0,0) A (x,0) (y,0) (z,0)) (0,[])=En (.inr (((g.units.getD []).length:Int),ke A.name [] (g.units.getD []))):=by
  have:=jg9 (f:=zS a0 a1 (g,0,0) A (x,0) (y,0) (z,0)) (fun i=>((i:Int),ke A.name [] ((g.units.getD []).take i))) (n:=(g.units.getD []).length) (d:=.inr (((g.units.getD []).length:Int),ke A.name [] (g.units.getD []))) (fun i hi=>by
   have hx:=E3 hi
   obtain⟨m1,_,_,m4⟩:=j.lg g2 hx
   have hl:(ke A.name [] ((g.units.getD []).take i)).length≤1073741824:=by
    have:=qow (a:=A.name) (l:=(g.units.getD []).take i) (M:=[])
    rw[List.length_take,List.length_nil]at this
    omega
   have hp:∀v,yT (ke A.name [] ((g.units.getD []).take i)) ((g.units.getD [])[i]).name v=En (hE (ke A.name [] ((g.units.getD []).take i)) ((g.units.getD [])[i]).name v):=fun v=>by unfold yT;rw[if_pos hl]
   have Jt:ke A.name [] ((g.units.getD []).take (i+1))=hE (ke A.name [] ((g.units.getD []).take i)) ((g.units.getD [])[i]).name (((g.units.getD [])[i]).aj&&yn ((g.units.getD [])[i]).er A.name):=by
    unfold ke
    rw[qvh hx]
   unfold zS
   simp only[kc hi,cond_true,jc hx,ob,m1,decide_true,q8n hi hS,Jt,Uo m4,hp]
   cases ((g.units.getD [])[i]).aj<;>rfl) (by
   unfold zS
   simp only[yb,cond_false,List.take_length])
  exact this
 rw[w0,ob]
 dsimp only
 obtain⟨e1,w1⟩:=jxm (f:=B8 a0 a1 (g,0,0) (x,0) (y,0) (z,0) (((g.units.getD []).length:Int),ke A.name [] (g.units.getD []))) (n:=(g.units.getD []).length) hS (by unfold B8;simp only[yb];rfl) (fun i hi=>by
  have hx:=E3 hi
  have hm:((g.units.getD [])[i]).er∈(now h).units:=by rw[hU];exact Gd (Gp hi)
  have r1:=q7b w2 hm (a:=A.name)
  have r2:=q7j (S:=now h) (u:=((g.units.getD [])[i]).er) (a:=A.name) (b:=B.name)
  unfold B8
  simp only[kc hi,cond_true,jc hx,ob,XU w2 x2 XV hm,XU w2 y2 XV hm,XU w2 z2 XV hm,jgx w2 hU,r2,r1]
  show cond ((g.units.getD [])[i]).er.aj (cond (wY (now h) A.name ((g.units.getD [])[i]).er.name) _ _) _=_
  cases ((g.units.getD [])[i]).er.aj<;>cases wY (now h) A.name ((g.units.getD [])[i]).er.name<;>cases hq:wY (now h) A.name ((g.units.getD [])[i]).er.partner<;>cases kq (now h) [B.name] ((g.units.getD [])[i]).er<;>simp[hq,show wY (now h) A.name ((g.units.getD [])[i]).partner=_ from hq])
 rw[w1,ob]
 dsimp only
 have kU:=Un w2 (k:=a1.x.toNat % (g.units.getD []).length) (u:=U.er) (by rw[hU,Gl,Nz];rfl)
 have kV:=Un w2 (k:=a1.y.toNat % (g.units.getD []).length) (u:=V.er) (by rw[hU,Gl,NA];rfl)
 have kU':js (now h) U.name=En (a1.x.toNat % (g.units.getD []).length):=kU
 have kV':js (now h) V.name=En (a1.y.toNat % (g.units.getD []).length):=kV
 obtain⟨c,c1,c2⟩:=j.BP (L:=En [U.name,V.name]) (by simp) (by simp) (by simp[kU',kV'])
 simp only[Gm]at c2
 obtain⟨mu,_,_,mul⟩:=j.lg g2 Nz
 obtain⟨mv,_,_,mvl⟩:=j.lg g2 NA
 rw[MI Nx.1 hu0,ob,jc Nz,ob,MI Ny.1 hu0,ob,jc NA,ob,c1,ob,mu,ob,mv,ob]
 dsimp only
 rw[decide_eq_true rfl,cond_true,cond_true,cond_true]
 have oU:yq (now h) U.name=En U.er:=EE w2 (v:=U.er) (by rw[hU];exact Gd (Gh Nz))
 have oV:yq (now h) V.name=En V.er:=EE w2 (v:=V.er) (by rw[hU];exact Gd (Gh NA))
 have hLS:(g.ar.getD []).length≤SM:=by unfold SM;omega
 obtain⟨e2,w2'⟩:=jxm (f:=B9 (g,0,0) (((g.units.getD []).length:Int),ke A.name [] (g.units.getD [])) (c,0) (jm (U.er.uses.map (·.k)),0) (jm (V.er.uses.map (·.k)),0)) (n:=(g.ar.getD []).length) hLS (by unfold B9;simp only[yb];rfl) (fun i hi=>by
  have hx:=E3 hi
  have hm:(g.ar.getD [])[i]∈(now h).ar:=by rw[Js];exact Gp hi
  have hc:f22 c ((g.ar.getD [])[i]).name=En (yn U.er ((g.ar.getD [])[i]).name&&yn V.er ((g.ar.getD [])[i]).name):=by
   rw[Um (by rw[c2];unfold MP;rw[Ga];exact Gc (Gg _ _) (by rw[Js];exact hLS)),c2,jb6 w2 hm]
   simp only[List.all_cons,List.all_nil,Bool.and_true,oU,oV,Option.any_some]
  unfold B9
  simp only[kc hi,cond_true,jc hx,ob,hc,Uo mul,Uo mvl]
  cases yn U.er ((g.ar.getD [])[i]).name<;>cases yn V.er ((g.ar.getD [])[i]).name<;>rfl)
 rw[w2']
 rfl
theorem I5 (a0:Option (List GEv))(a1:G2)(Nx:0≤a1.x∧a1.x≤255)(Ny:0≤a1.y∧a1.y≤255):qc gA (X gA) 5 [sl 5 vev a0,.agg [.int .u8 a1.x,.int .u8 a1.y]]=En (.bool true,I):=W5 (jpe a0 a1 Nx Ny)
end Go.Z
end
