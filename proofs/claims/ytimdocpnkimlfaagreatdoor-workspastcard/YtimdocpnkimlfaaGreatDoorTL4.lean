/- Chapter 10. -/
import Derived.Test.YtimdocpnkimlfaaGreatDoorAZ
import Derived.Test.YtimdocpnkimlfaaGreatDoorEF
set_option linter.unusedVariables false
set_option linter.unusedSimpArgs false
set_option maxRecDepth 100000
set_option maxHeartbeats 4000000
noncomputable section
open Bool renaming false→I,true→Gm
open Option renaming some→En,getD_some→Ge
open List renaming getElem?_eq_getElem→Ga,length_map→Gb,getElem?_map→Gd,countP_eq_length_filter→Gh,getElem?_eq_some_iff→Gi,mem_of_getElem?→Gj
namespace Go.Z
open Go Go.Abs Go.W
theorem j79 {a0:Option (List GEv)}{a1:Int}{r}(h:f11 a0 a1=En r):qc gD (X gD) 11 [sl 5 vev a0,Iv a1]=En (.bool r,I):=Ff rfl rfl (W11 h) (by first|rfl|simp only[go_sem,seval])
theorem jzk {a0:Option (List GEv)}{a1:Int}{r}(h:f19 a0 a1=En r):qc gD (X gD) 19 [sl 5 vev a0,Iv a1]=En (.aJ [aR r.1,Iv r.2],I):=Ff rfl rfl (W19 h) (by first|rfl|simp only[go_sem,seval])
theorem j3p {a0:Option (List GEv)}{r}(h:f16 a0=En r):qc gD (X gD) 16 [sl 5 vev a0]=En (.aJ [aR r.1,Iv r.2.1,Iv r.2.2],I):=Ff rfl rfl (W16 h) (by first|rfl|simp only[go_sem,seval])
theorem j3g {a0:ak}{a1:ak}{r}(h:f17 a0 a1=En r):qc gD (X gD) 17 [aR a0,aR a1]=En (.bool r,I):=Ff rfl rfl (W17 h) (by first|rfl|simp only[go_sem,seval])
theorem j49 {a0:ak}{r}(h:f18 a0=En r):qc gD (X gD) 18 [aR a0]=En (aR r,I):=Ff rfl rfl (W18 h) (by first|rfl|simp only[go_sem,seval])
def pZ (a0:Option (List GEv))(a1:Int)(s0:Int×Int):Option ((Int×Int)⊕(Bool⊕(Int×Int))):=
 cond (decide (s0.2<((a0.getD []).length:Int)))
  (qa (qr (a0.getD []) s0.2) fun v23=>
  cond (decide (v23.kind=([117,110,100,111]:List UInt8)))
   (qa (Kj) fun v26=>
   En (.inr (.inl v26)))
   (qa (qr (v23.values.getD []) 0) fun v28=>
   cond (decide (v28≤(qe .i64 a1)))
    (En (.inl (qe .i64 (s0.2+1),qe .i64 (s0.2+1))))
    (En (.inl (s0.1,qe .i64 (s0.2+1))))))
  (En (.inr (.inr (s0.1,s0.2))))
def MP (a0:Option (List GEv))(a1:Int)(s0:Int×Int):aY:=⟨[(0,sl 5 vev a0,I),(1,.int .u8 a1,I),(5,Iv s0.1,I),(33,sl 5 vev a0,I),(34,Lv a0,I),(35,Iv s0.2,I)],[]⟩
def MQ (a0:Option (List GEv))(a1:Int):Bool⊕(Int×Int)→jf×aY
 | .inl d=>(.ret,⟨[(4,.bool d,I)],[]⟩)
 | .inr d=>(.exit 0,⟨[(0,sl 5 vev a0,I),(1,.int .u8 a1,I),(5,Iv d.1,I),(33,sl 5 vev a0,I),(34,Lv a0,I),(35,Iv d.2,I),(36,.bool I,I)],[]⟩)
theorem zji (a0:Option (List GEv))(a1:Int)(s0:Int×Int)(r)(h:pZ a0 a1 s0=En r):jw gD MR (MP a0 a1) (MQ a0 a1) s0 r:=by
 unfold pZ at h
 repeat' first|(replace h:=qb h;obtain⟨d,g,h⟩:=h;with_reducible first|replace g:=Q8 g|skip)|(replace h:=qd h;rcases h with⟨g,h⟩|⟨g,h⟩)
 all_goals (cases h<;>((first|refine qw ?_|refine jm ?_);simp only[go_sem,seval,MR,MP,jg,MQ, *]<;>rfl))
theorem zka (a0:Option (List GEv))(a1:Int){s0:Int×Int}{d}(h:bu (pZ a0 a1) s0=En d):X gD (.loop MR) (MP a0 a1 s0)=En (MQ a0 a1 d):=zc (zji a0 a1) h
def Cb (cM:ak×Int)(du:ak×Int)(s1:Int):Option (Int⊕(Unit⊕Int)):=
 cond (decide (s1<((cM.1.au.getD []).length:Int)))
  (qa (qr (cM.1.au.getD []) s1) fun zV=>
  qa (qr (du.1.au.getD []) s1) fun xg=>
  cond (decide (xg.name=zV.name))
   (cond (decide (xg.kind=zV.kind))
    (cond (decide (xg.count=zV.count))
     (cond (decide (zV.left<xg.left))
      (En (.inr (.inl ())))
      (En (.inl (qe .i64 (s1+1)))))
     (En (.inr (.inl ()))))
    (En (.inr (.inl ()))))
   (En (.inr (.inl ()))))
  (En (.inr (.inr s1)))
def MS (cM:ak×Int)(du:ak×Int)(s1:Int):aY:=⟨[(8,.ai (aR cM.1),I),(13,.ai (aR du.1),I),(152,sl 5 jd cM.1.au,I),(153,Lv cM.1.au,I),(154,Iv s1,I)],[]⟩
def MT (cM:ak×Int)(du:ak×Int):Unit⊕Int→jf×aY
 | .inl d=>(.ret,⟨[(4,.bool I,I)],[]⟩)
 | .inr d=>(.exit 2,⟨[(8,.ai (aR cM.1),I),(13,.ai (aR du.1),I),(152,sl 5 jd cM.1.au,I),(153,Lv cM.1.au,I),(154,Iv d,I),(155,.bool I,I)],[]⟩)
theorem zj2 (cM:ak×Int)(du:ak×Int)(s1:Int)(r)(h:Cb cM du s1=En r):jw gD MU (MS cM du) (MT cM du) s1 r:=by
 unfold Cb at h
 repeat' first|(replace h:=qb h;obtain⟨d,g,h⟩:=h)|(replace h:=qd h;rcases h with⟨g,h⟩|⟨g,h⟩)
 all_goals (cases h<;>((first|refine qw ?_|refine jm ?_);simp only[go_sem,seval,MU,MS,jg,MT, *]<;>rfl))
theorem zh4 (cM:ak×Int)(du:ak×Int){s1:Int}{d}(h:bu (Cb cM du) s1=En d):X gD (.loop MU) (MS cM du s1)=En (MT cM du d):=zc (zj2 cM du) h
def Cc (cM:ak×Int)(du:ak×Int)(s2:Int):Option (Int⊕(Unit⊕Int)):=
 cond (decide (s2<((cM.1.units.getD []).length:Int)))
  (qa (qr (cM.1.units.getD []) s2) fun xh=>
  qa (qr (du.1.units.getD []) s2) fun xi=>
  cond (decide (xi.name=xh.name))
   (cond (decide (xi.version<xh.version))
    (En (.inr (.inl ())))
    (cond (decide (((xi.results.getD []).length:Int)<((xh.results.getD []).length:Int)))
     (En (.inr (.inl ())))
     (cond (decide (xi.ah<xh.ah))
      (En (.inr (.inl ())))
      (En (.inl (qe .i64 (s2+1)))))))
   (En (.inr (.inl ()))))
  (En (.inr (.inr s2)))
def MV (cM:ak×Int)(du:ak×Int)(s2:Int):aY:=⟨[(8,.ai (aR cM.1),I),(13,.ai (aR du.1),I),(192,sl 8 bD cM.1.units,I),(193,Lv cM.1.units,I),(194,Iv s2,I)],[]⟩
def MW (cM:ak×Int)(du:ak×Int):Unit⊕Int→jf×aY
 | .inl d=>(.ret,⟨[(4,.bool I,I)],[]⟩)
 | .inr d=>(.exit 4,⟨[(8,.ai (aR cM.1),I),(13,.ai (aR du.1),I),(192,sl 8 bD cM.1.units,I),(193,Lv cM.1.units,I),(194,Iv d,I),(195,.bool I,I)],[]⟩)
theorem zgx (cM:ak×Int)(du:ak×Int)(s2:Int)(r)(h:Cc cM du s2=En r):jw gD MX (MV cM du) (MW cM du) s2 r:=by
 unfold Cc at h
 repeat' first|(replace h:=qb h;obtain⟨d,g,h⟩:=h)|(replace h:=qd h;rcases h with⟨g,h⟩|⟨g,h⟩)
 all_goals (cases h<;>((first|refine qw ?_|refine jm ?_);simp only[go_sem,seval,MX,MV,jg,MW, *]<;>rfl))
theorem zic (cM:ak×Int)(du:ak×Int){s2:Int}{d}(h:bu (Cc cM du) s2=En d):X gD (.loop MX) (MV cM du s2)=En (MW cM du d):=zc (zgx cM du) h
def Cd (cM:ak×Int)(du:ak×Int)(s3:Int):Option (Int⊕(Unit⊕Int)):=
 cond (decide (s3<((cM.1.ae.getD []).length:Int)))
  (qa (qr (cM.1.ae.getD []) s3) fun v146=>
  qa (qr (du.1.ae.getD []) s3) fun v148=>
  cond (decide (v148.name=v146.name))
   (cond (decide (((v148.aH.getD []).length:Int)<((v146.aH.getD []).length:Int)))
    (En (.inr (.inl ())))
    (En (.inl (qe .i64 (s3+1)))))
   (En (.inr (.inl ()))))
  (En (.inr (.inr s3)))
def MY (cM:ak×Int)(du:ak×Int)(s3:Int):aY:=⟨[(13,.ai (aR du.1),I),(234,sl 4 qu cM.1.ae,I),(235,Lv cM.1.ae,I),(236,Iv s3,I)],[]⟩
def MZ (cM:ak×Int)(du:ak×Int):Unit⊕Int→jf×aY
 | .inl d=>(.ret,⟨[(4,.bool I,I)],[]⟩)
 | .inr d=>(.exit 6,⟨[(13,.ai (aR du.1),I),(234,sl 4 qu cM.1.ae,I),(235,Lv cM.1.ae,I),(236,Iv d,I),(237,.bool I,I)],[]⟩)
theorem zcb (cM:ak×Int)(du:ak×Int)(s3:Int)(r)(h:Cd cM du s3=En r):jw gD M0 (MY cM du) (MZ cM du) s3 r:=by
 unfold Cd at h
 repeat' first|(replace h:=qb h;obtain⟨d,g,h⟩:=h)|(replace h:=qd h;rcases h with⟨g,h⟩|⟨g,h⟩)
 all_goals (cases h<;>((first|refine qw ?_|refine jm ?_);simp only[go_sem,seval,M0,MY,jg,MZ, *]<;>rfl))
theorem zgl (cM:ak×Int)(du:ak×Int){s3:Int}{d}(h:bu (Cd cM du) s3=En d):X gD (.loop M0) (MY cM du s3)=En (MZ cM du d):=zc (zcb cM du) h
def f4 (a0:Option (List GEv))(a1:Int):Option Bool:=
 qa (f11 a0 20) fun v1=>
 cond v1
  (qa (bu (pZ a0 a1) (0,0)) fun d31=>match d31 with
   | .inl d33=>
    En d33
   | .inr d34=>
    qa (f19 a0 (qe .i64 a1)) fun cM=>
    qa (wK a0 none (En d34.1)) fun v37=>
    qa (f16 v37) fun EY=>
    qa (f19 a0 (qe .i64 ((qe .i64 a1)+1))) fun du=>
    qa (f16 a0) fun mN=>
    qa (f19 a0 mN.1.day) fun sj=>
    cond (decide (cM.2=0))
     (cond (decide (EY.2.2=0))
      (cond (decide (du.2=0))
       (cond (decide (mN.2.2=0))
        (cond (decide (sj.2=0))
         (qa (f18 cM.1) fun XQ=>
         qa (f18 EY.1) fun EZ=>
         qa (f17 XQ EZ) fun v56=>
         cond v56
          (qa (f18 sj.1) fun v59=>
          qa (f18 mN.1) fun sk=>
          qa (f17 v59 sk) fun XR=>
          cond XR
           (cond (decide (((du.1.au.getD []).length:Int)<((cM.1.au.getD []).length:Int)))
            (En I)
            (cond (decide (((du.1.units.getD []).length:Int)<((cM.1.units.getD []).length:Int)))
             (En I)
             (cond (decide (((du.1.ae.getD []).length:Int)<((cM.1.ae.getD []).length:Int)))
              (En I)
              (qa (bu (Cb cM du) 0) fun d96=>match d96 with
               | .inl d98=>
                En I
               | .inr d99=>
                qa (bu (Cc cM du) 0) fun d127=>match d127 with
                 | .inl d129=>
                  En I
                 | .inr d130=>
                  qa (bu (Cd cM du) 0) fun d152=>match d152 with
                   | .inl d154=>
                    En I
                   | .inr d155=>
                    qa (Kj) fun XS=>
                    En XS))))
           (En I))
          (En I))
         (En I))
        (En I))
       (En I))
      (En I))
     (En I))
  (qa (Kj) fun XT=>
  En XT)
theorem W4 {a0:Option (List GEv)}{a1:Int}{r}(h:f4 a0 a1=En r):qc gD (X gD) 4 [sl 5 vev a0,.int .u8 a1]=En (.bool r,I):=by
 unfold f4 at h
 refine zh c4 ?_
 repeat' first|(replace h:=qb h;obtain⟨d,g,h⟩:=h;with_reducible first|replace g:=j79 g|replace g:=jzk g|replace g:=j3p g|replace g:=j49 g|replace g:=j3g g|replace g:=Q8 g|replace g:=jdy g|(replace g:=zka a0 a1 g;rcases d with d|d<;>dsimp only[MP,MQ,zf]at g h)|(replace g:=zh4 _ _ g;rcases d with d|d<;>dsimp only[MS,MT,zf]at g h)|(replace g:=zic _ _ g;rcases d with d|d<;>dsimp only[MV,MW,zf]at g h)|(replace g:=zgl _ _ g;rcases d with d|d<;>dsimp only[MY,MZ,zf]at g h)|skip)|(replace h:=qd h;rcases h with⟨g,h⟩|⟨g,h⟩)
 all_goals (cases h<;>(simp only[go_sem,seval,c4, *];exact⟨_,rfl⟩))
end Go.Z
namespace Go.Z
open Go Go.Abs Go.W
def sn (D:Int)(L:List GEv)(i:Nat):Int:=(List.range i).foldl (fun t k=>match L[k]? with
 |some e=>if vl e.er 0≤D then((k+1:Nat):Int)else t
 |none=>t) 0
theorem qt4 {D:Int}{L:List GEv}{i:Nat}{e:GEv}(he:L[i]?=En e):sn D L (i+1)=if vl e.er 0≤D then((i+1:Nat):Int)else sn D L i:=by
 unfold sn
 rw[List.range_succ,List.foldl_append]
 simp only[List.foldl_cons,List.foldl_nil,he]
theorem jrm {l:List GEv}{h}(j:iK (En l) h){i:Nat}{e:GEv}(he:l[i]?=En e):zb e.er=0:=by
 have hr:=j.hr
 simp only[Ge]at hr
 obtain⟨_,_,_,_,hc,_⟩:=jit hr (i:=i) (e:=e.er) (by rw[Gd,he];rfl)
 exact hc
theorem jew {L:List GEv}{a0:Option (List GEv)}{D:Int}{h}(hL:a0.getD []=L)(j:iK (En L) h)(hn:L.length≤20)(hD:qe .i64 D=D):
  (∃e∈L,e.kind=([117,110,100,111]:List UInt8))∧bu (pZ a0 D) (0,0)=En (.inl Gm)∨(∀e∈L,e.er.kind≠iX)∧bu (pZ a0 D) (0,0)=En (.inr (sn D L L.length,(L.length:Int))):=by
 have hS:L.length≤SM:=by unfold SM;omega
 have cy:∀i e,L[i]?=En e→e.kind≠([117,110,100,111]:List UInt8)→pZ a0 D (sn D L i,(i:Int))=En (.inl (sn D L (i+1),((i+1:Nat):Int))):=fun i e he hk=>by
  have hi:=(Gi.1 he).1
  unfold pZ
  rw[hL,qt4 he]
  simp only[yc hi,cond_true,q9 he,ob,decide_eq_false hk,cond_false,q75 (jrm j he) hk,hD,jo7 hi hS]
  by_cases hv:vl e.er 0≤D
  ·rw[decide_eq_true hv,if_pos hv,cond_true]
  ·rw[decide_eq_false hv,if_neg hv,cond_false]
 by_cases hu:∀e∈L,e.er.kind≠iX
 ·refine .inr ⟨hu,?_⟩
  have:=q46 (f:=pZ a0 D) (fun i=>(sn D L i,(i:Int))) (n:=L.length) (d:=.inr (sn D L L.length,(L.length:Int))) (fun i hi=>cy i _ (Ga hi) (hu _ (List.getElem_mem hi))) (by
   unfold pZ
   rw[hL]
   simp only[zq,cond_false])
  exact this
 ·refine .inl ?_
  cases hk:L.findIdx? (fun e=>decide (e.kind=([117,110,100,111]:List UInt8)))with
  |none=>
   exfalso
   refine hu fun e he hh=>?_
   have:=(ey.1 hk) e he
   rw[decide_eq_true (show e.kind=([117,110,100,111]:List UInt8)from hh)]at this
   cases this
  |some k=>
   obtain⟨x,x1,x2,x3,x4⟩:=bJ hk
   have x2:=of_decide_eq_true x2
   refine⟨⟨x,Gj x1,x2⟩,?_⟩
   have:=q46 (f:=pZ a0 D) (fun i=>(sn D L i,(i:Int))) (n:=k) (d:=.inl Gm) (fun i hi=>cy i _ (Ga (by omega)) (of_decide_eq_false (x4 i _ hi (Ga (by omega))))) (by
    unfold pZ
    rw[hL]
    simp only[yc x3,cond_true,q9 x1,ob,decide_eq_true x2]
    rfl)
   exact this
theorem q0b {L:List GEv}{h}{D:Int}(k2:dD (qe .i64) h)(hh:h.1=L.map GEv.er):∀i,i≤L.length→sn D L i=((min i (h.1.filter fun e=>decide (vl e 0≤D)).length:Nat):Int)
 |0,_=>by rw[Nat.zero_min];rfl
 |i+1,hi=>by
  have he:=Ga (show i<L.length by omega)
  have hE:=jh6 k2 D (i:=i) (e:=(L[i]).er) (by rw[hh,Gd,he];rfl)
  rw[qt4 he,q0b k2 hh i (by omega)]
  by_cases hv:vl (L[i]).er 0≤D
  ·rw[if_pos hv]
   have:=hE.1 hv
   omega
  ·rw[if_neg hv]
   have:¬i<(h.1.filter fun e=>decide (vl e 0≤D)).length:=fun q=>hv (hE.2 q)
   omega
theorem q74 {h}(k2:dD (qe .i64) h):(h.1=[]∧(now h).day=0)∨∃e,h.1[h.1.length-1]?=En e∧0<h.1.length∧(now h).day=vl e 0:=by
 cases hl:h.1.length with
 |zero=>
  refine .inl ⟨List.length_eq_zero_iff.1 hl,?_⟩
  have:=k2.now
  rw[hl,k2.first]at this
  rw[←En.inj this];rfl
 |succ n=>
  have he:h.1[n]?=En h.1[n]:=Ga (by omega)
  have hs:=k2.len
  obtain⟨r',q1,q2⟩:=k2.next n _ _ he (Ga (show n<h.2.length by omega))
  have hn:=k2.now
  rw[hl,q1]at hn
  refine .inr ⟨h.1[n],he,by omega,?_⟩
  rw[←En.inj hn]
  exact(XU q2).1
theorem je0 {h}(k2:dD (qe .i64) h):h.1.filter (fun e=>decide (vl e 0≤(now h).day))=h.1:=by
 rw[List.filter_eq_self]
 intro e he
 obtain⟨i,hi⟩:=List.getElem?_of_mem he
 rcases q74 k2 with⟨h0,_⟩|⟨f,f1,f2,f3⟩
 ·rw[h0]at he;cases he
 ·have hil:=(Gi.1 hi).1
  have:=k2.gw i e hi (h.1.length-1-i) f (by rw[show i+(h.1.length-1-i)=h.1.length-1 by omega];exact f1)
  rw[f3]
  exact decide_eq_true this
theorem qzp {h}(k2:dD (qe .i64) h):0≤(now h).day∧(now h).day≤999999999:=by
 rcases q74 k2 with⟨_,h0⟩|⟨f,f1,f2,f3⟩
 ·rw[h0];omega
 ·rw[f3]
  exact XV (k2.kinds f (Gj f1)).1 0
theorem jph (a0:Option (List GEv))(a1:Int)(h0:0≤a1)(h1:a1≤255):f4 a0 a1=En Gm:=by
 obtain⟨b1,p1,k1⟩:=jui (l:=a0) (n:=20) (by omega)
 unfold f4
 rw[show f11 a0 20=En b1 from p1,ob]
 cases b1 with
 |false=>rfl
 |true=>
 rw[cond_true]
 obtain⟨hn,h,j⟩:=k1 rfl
 obtain⟨L,hL⟩:∃L,a0.getD []=L:=⟨_,rfl⟩
 have j':iK (En L) h:=⟨by rw[Ge,←hL];exact j.hb,by rw[Ge,←hL];exact j.hr⟩
 have hn:L.length≤20:=by rw[hL]at hn;omega
 have hw:qe .i64 a1=a1:=Lp (by omega) (by omega)
 have Vu:qe .i64 (a1+1)=a1+1:=Lp (by omega) (by omega)
 rcases jew hL j' hn hw with⟨_,hl⟩|⟨hu,hl⟩
 ·rw[hl];rfl
 rw[hl,ob]
 have hr:=j'.hr
 simp only[Ge]at hr
 obtain⟨hh,hall⟩:=jqe (l:=L.map GEv.er) (fun e he=>by obtain⟨x,hx,rfl⟩:=List.mem_map.1 he;exact hu x hx) hr
 have hhl:h.1.length=L.length:=by rw[hh,Gb]
 have k2:=j.ok
 obtain⟨m,hm⟩:∃m,(h.1.filter fun e=>decide (vl e 0≤a1)).length=m:=⟨_,rfl⟩
 have Ce:m≤L.length:=by rw[←hm,←hhl];exact List.length_filter_le _ _
 have hth:sn a1 L L.length=(m:Int):=by
  rw[q0b k2 hh _ (Nat.le_refl _),hm,Nat.min_eq_right Ce]
 obtain⟨ga,a1',a2,a3⟩:=j.oZ h0 (show a1≤999999999 by omega)
 rw[hm]at a2
 obtain⟨q,q1,q2⟩:=Uh (o:=a0) (k:=m) (by rw[hL];exact Ce)
 rw[hL]at q2
 obtain⟨qm,r1,r2,r3⟩:=hall m (by rw[Gb];exact Ce)
 have jq:iK q qm:=⟨fun e he=>j.hb e (by rw[q2]at he;rw[hL];exact List.mem_of_mem_take he),by rw[q2,List.map_take];exact r1⟩
 obtain⟨gb,b1,b2,b3⟩:=jq.cr
 have nW:ga.er=gb.er:=by rw[a2]at r3;rw[b2];exact En.inj r3
 obtain⟨gc,c1,c2,c3⟩:=j.oZ (show 0≤a1+1 by omega) (show a1+1≤999999999 by omega)
 obtain⟨gd,d1,d2,d3⟩:=j.cr
 have XW:gd.day=(now h).day:=by rw[←d2];rfl
 obtain⟨gz,z1,z2,z3⟩:=j.oZ (qzp k2).1 (qzp k2).2
 rw[je0 k2,k2.now]at z2
 have hzd:gz.er=gd.er:=by rw[d2];exact(En.inj z2).symm
 obtain⟨xa,xa1,xa2⟩:=Mi a3
 obtain⟨xb,xb1,xb2⟩:=Mi b3
 obtain⟨xz,xz1,xz2⟩:=Mi z3
 obtain⟨xd,xd1,xd2⟩:=Mi d3
 have gxa:GB xa:=jq.gb (by rw[xa2,nW,b2])
 have gxz:GB xz:=j.gb (by rw[xz2,hzd,d2])
 dsimp only
 rw[hw,a1',ob]
 dsimp only
 rw[hth,q1,ob,b1,ob,Vu,c1,ob,d1,ob,XW,z1,ob]
 have ht1:f17 xa xb=En Gm:=q43 (by rw[xa2,xb2,nW]) gxa
 have ht2:f17 xz xd=En Gm:=q43 (by rw[xz2,xd2,hzd]) gxz
 obtain⟨m',rS⟩:∃m',(h.1.filter fun e=>decide (vl e 0≤a1+1)).length=m':=⟨_,rfl⟩
 rw[rS]at c2
 have hmm:m≤m':=by
  rw[←hm,←rS,←Gh,←Gh]
  exact List.countP_mono_left fun x _ hx=>by
   have:vl x 0≤a1:=by simpa using hx
   exact decide_eq_true (by omega)
 have hle:=k2.le jdl (by omega) m a2 (m'-m) gc.er (by rw[show m+(m'-m)=m' by omega];exact c2)
 have lL:(ga.au.getD []).length≤(gc.au.getD []).length:=hle.au.len
 have lU:(ga.units.getD []).length≤(gc.units.getD []).length:=by
  have:=hle.units.len
  rwa [rN,rN,Gb,Gb]at this
 have lP:(ga.ae.getD []).length≤(gc.ae.getD []).length:=by
  have:=hle.eM.len
  rwa [pP,pP,Gb,Gb]at this
 obtain⟨e1,w1⟩:=rZ (f:=Cb (ga,0) (gc,0)) (n:=(ga.au.getD []).length) (jk a3.L) (by unfold Cb;simp only[zq];rfl) (fun i hi=>by
  have hx:=Ga hi
  obtain⟨y,y1,y2⟩:=hle.au i _ hx
  have y1:(gc.au.getD [])[i]?=En y:=y1
  unfold Cb
  simp only[yc hi,cond_true,q9 hx,q9 y1,ob,decide_eq_true y2.name,decide_eq_true y2.kind,decide_eq_true y2.count,decide_eq_false (Int.not_lt.2 y2.left),cond_false])
 obtain⟨e2,w2⟩:=rZ (f:=Cc (ga,0) (gc,0)) (n:=(ga.units.getD []).length) (jk a3.U) (by unfold Cc;simp only[zq];rfl) (fun i hi=>by
  have hx:=Ga hi
  obtain⟨y,y1,y2⟩:=hle.units i _ (by rw[rN,Gd,hx];rfl)
  rw[rN,Gd]at y1
  cases hy:(gc.units.getD [])[i]? with
  |none=>rw[hy]at y1;cases y1
  |some u=>
   rw[hy]at y1
   have y1:u.er=y:=En.inj y1
   subst y1
   have n1:u.name=((ga.units.getD [])[i]).name:=y2.name
   have n2:¬u.version<((ga.units.getD [])[i]).version:=Int.not_lt.2 y2.version
   have n3:¬((u.results.getD []).length:Int)<((((ga.units.getD [])[i]).results.getD []).length:Int):=by
    have:(((ga.units.getD [])[i]).results.getD []).length≤(u.results.getD []).length:=y2.results
    omega
   have n4:¬u.ah<((ga.units.getD [])[i]).ah:=Int.not_lt.2 y2.told
   unfold Cc
   simp only[yc hi,cond_true,q9 hx,q9 hy,ob,decide_eq_true n1,decide_eq_false n2,decide_eq_false n3,decide_eq_false n4,cond_false])
 obtain⟨e3,w3⟩:=rZ (f:=Cd (ga,0) (gc,0)) (n:=(ga.ae.getD []).length) (jk a3.P) (by unfold Cd;simp only[zq];rfl) (fun i hi=>by
  have hx:=Ga hi
  obtain⟨y,y1,y2⟩:=hle.eM i _ (by rw[pP,Gd,hx];rfl)
  rw[pP,Gd]at y1
  cases hy:(gc.ae.getD [])[i]? with
  |none=>rw[hy]at y1;cases y1
  |some u=>
   rw[hy]at y1
   have y1:u.er=y:=En.inj y1
   subst y1
   have n1:u.name=((ga.ae.getD [])[i]).name:=y2.name
   have n3:¬((u.aH.getD []).length:Int)<((((ga.ae.getD [])[i]).aH.getD []).length:Int):=by
    have:((((ga.ae.getD [])[i]).aH.getD []).map bf.er).length≤((u.aH.getD []).map bf.er).length:=y2.aH
    rw[Gb,Gb]at this
    omega
   unfold Cd
   simp only[yc hi,cond_true,q9 hx,q9 hy,ob,decide_eq_true n1,decide_eq_false n3,cond_false])
 simp only[decide_true,cond_true,xa1,xb1,xz1,xd1,ob,ht1,ht2,decide_eq_false (show ¬((gc.au.getD []).length:Int)<((ga.au.getD []).length:Int) by omega),decide_eq_false (show ¬((gc.units.getD []).length:Int)<((ga.units.getD []).length:Int) by omega),decide_eq_false (show ¬((gc.ae.getD []).length:Int)<((ga.ae.getD []).length:Int) by omega),cond_false,w1,w2,w3]
 rfl
theorem I4 (a0:Option (List GEv))(a1:Int)(h0:0≤a1)(h1:a1≤255):qc gD (X gD) 4 [sl 5 vev a0,.int .u8 a1]=En (.bool Gm,I):=W4 (jph a0 a1 h0 h1)
end Go.Z
end
