/- The program with the result of the fixed examples. -/
import Derived.Test.YtfopaakmgogpiaaGreatDoorAZ
import Derived.Test.YtfopaakmgogpiaaGreatDoorW18
set_option linter.unusedVariables false
set_option linter.unusedSimpArgs false
set_option maxRecDepth 100000
open Option renaming some→I,none→El
open Bool renaming false→Eh
namespace Go.Z
open Go Go.Abs Go.Proofs
def tAw:List qa→Option (qa×Bool)
 | []=>I (.bool true,Eh)
 |_=>El
def WA:vA:=fun k=>bif Nat.beq k 8 then I tAw else El
def opZ:Nat→Bool:=fun k=>Nat.ble 3 k&&Nat.ble k 6
noncomputable def dD:qr:=l9 pr WA opZ
theorem okZ:qx Tryz.prog dD:=jek (okM ok0) (by
 intro k f hf
 simp only[WA,Bool.cond_eq_ite]at hf
 split at hf
 ·next hb=>
  cases hf
  obtain rfl:=Nat.eq_of_beq_eq_true hb
  refine⟨ud (k:=8) (by kernel_rfl),fun args v o h _ _=>?_⟩
  cases args with
  |nil=>cases h;exact jf4
  |cons a l=>cases h
 ·cases hf)
theorem kY {k:Nat}(ho:opZ k=Eh)(hm:WA k=El){args:List qa}{v:qa}{o:Bool}(h:jz pr (X pr) k args=I (v,o))(hv:below 0 v=true):jz dD (X dD) k args=I (v,o):=q64 ho hm h hv
def E8:Option Bool:=I true
theorem Q8 {r}(h:E8=I r):jz dD (X dD) 8 []=I (.bool r,Eh):=by
 cases h
 exact q6x (f:=tAw) rfl rfl rfl rfl
end Go.Z
set_option maxHeartbeats 4000000
namespace Go.Z
open Go Go.Abs Go.W
theorem zho {a0:Option (List ql)}{a1:Int}{r}(h:f7 a0 a1=I r):jz dD (X dD) 7 [sl 5 vev a0,Iv a1]=I (.bool r,Eh):=kY rfl rfl (W7 h) (by first|rfl|simp only[go_sem,seval])
theorem j5g {a0:Option (List ql)}{r}(h:f10 a0=I r):jz dD (X dD) 10 [sl 5 vev a0]=I (.az [aR r.1,Iv r.2.1,Iv r.2.2],Eh):=kY rfl rfl (W10 h) (by first|rfl|simp only[go_sem,seval])
theorem j1p {a0:Option (List ql)}{a1:List UInt8}{r}(h:f19 a0 a1=I r):jz dD (X dD) 19 [sl 5 vev a0,.str a1]=I (.az [sl 1 yp r.1,Iv r.2],Eh):=kY rfl rfl (W19 h) (by first|rfl|simp only[go_sem,seval])
theorem j1h {a0:Option (List ql)}{a1:List UInt8}{r}(h:f20 a0 a1=I r):jz dD (X dD) 20 [sl 5 vev a0,.str a1]=I (.az [sl 1 yp r.1,Iv r.2],Eh):=kY rfl rfl (W20 h) (by first|rfl|simp only[go_sem,seval])
theorem jw0 {a0:Option (List ql)}{a1:List UInt8}{r}(h:f21 a0 a1=I r):jz dD (X dD) 21 [sl 5 vev a0,.str a1]=I (.az [sl 1 yp r.1,Iv r.2],Eh):=kY rfl rfl (W21 h) (by first|rfl|simp only[go_sem,seval])
theorem j5l {a0:Option (List ql)}{a1:List UInt8}{r}(h:f22 a0 a1=I r):jz dD (X dD) 22 [sl 5 vev a0,.str a1]=I (Iv r,Eh):=kY rfl rfl (W22 h) (by first|rfl|simp only[go_sem,seval])
theorem j2z {a0:Option (List ql)}{a1:List UInt8}{r}(h:f23 a0 a1=I r):jz dD (X dD) 23 [sl 5 vev a0,.str a1]=I (.az [Iv r.1,Iv r.2],Eh):=kY rfl rfl (W23 h) (by first|rfl|simp only[go_sem,seval])
theorem jwb {a0:Option (List Int)}{r}(h:f24 a0=I r):jz dD (X dD) 24 [sl 1 kn a0]=I (Iv r,Eh):=kY rfl rfl (W24 h) (by first|rfl|simp only[go_sem,seval])
theorem jxc {a0:Bool}{a1:Int}{r}(h:f25 a0 a1=I r):jz dD (X dD) 25 [.bool a0,Iv a1]=I (Iv r,Eh):=kY rfl rfl (W25 h) (by first|rfl|simp only[go_sem,seval])
theorem j21 {a0:List UInt8}{r}(h:f26 a0=I r):jz dD (X dD) 26 [.str a0]=I (.bool r,Eh):=kY rfl rfl (W26 h) (by first|rfl|simp only[go_sem,seval])
theorem j3x {a0:qc}{a1:List UInt8}{r}(h:f27 a0 a1=I r):jz dD (X dD) 27 [aR a0,.str a1]=I (Iv r,Eh):=kY rfl rfl (N7 h) (by first|rfl|simp only[go_sem,seval])
theorem j4w {a0:qc}{a1:List UInt8}{r}(h:f28 a0 a1=I r):jz dD (X dD) 28 [aR a0,.str a1]=I (Iv r,Eh):=kY rfl rfl (Eu h) (by first|rfl|simp only[go_sem,seval])
theorem j07 {a0:qe}{r}(h:f29 a0=I r):jz dD (X dD) 29 [aU a0]=I (sl 1 yp r.1,r.2):=kY rfl rfl (W29 h) (by first|rfl|simp only[go_sem,seval])
theorem jyn {a0:qc}{a1:qe}{r}(h:f30 a0 a1=I r):jz dD (X dD) 30 [aR a0,aU a1]=I (sl 1 yp r.1,r.2):=kY rfl rfl (W30 h) (by first|rfl|simp only[go_sem,seval])
theorem jxt {a0:qc}{a1:qe}{r}(h:f31 a0 a1=I r):jz dD (X dD) 31 [aR a0,aU a1]=I (Iv r,Eh):=kY rfl rfl (W31 h) (by first|rfl|simp only[go_sem,seval])
theorem jzo {a0:qc}{a1:List UInt8}{r}(h:f32 a0 a1=I r):jz dD (X dD) 32 [aR a0,.str a1]=I (sl 1 yp r.1,r.2):=kY rfl rfl (W32 h) (by first|rfl|simp only[go_sem,seval])
theorem j4e {a0:qc}{a1:List UInt8}{r}(h:f33 a0 a1=I r):jz dD (X dD) 33 [aR a0,.str a1]=I (Iv r,Eh):=kY rfl rfl (W33 h) (by first|rfl|simp only[go_sem,seval])
theorem jxz {a0:Option (List (List UInt8))}{a1:Int}{a2:Option (List (List UInt8))}{a3:Int}{r}(h:f34 a0 a1 a2 a3=I r):jz dD (X dD) 34 [sl 1 yp a0,Iv a1,sl 1 yp a2,Iv a3]=I (.bool r,Eh):=kY rfl rfl (W34 h) (by first|rfl|simp only[go_sem,seval])
noncomputable def f5 (a0:Option (List ql))(a1:List UInt8):Option Bool:=
 jx (f7 a0 24) fun v1=>
 cond v1
  (cond (decide (40<(a1.length:Int)))
   (jx (E8) fun v5=>
   I v5)
   (jx (f19 a0 a1) fun v7=>
   jx (f20 a0 a1) fun v9=>
   jx (f21 a0 a1) fun v11=>
   jx (f22 a0 a1) fun dq=>
   jx (f23 a0 a1) fun da=>
   jx (f10 a0) fun dr=>
   jx (f26 a1) fun lL=>
   jx (f25 (!lL) 8) fun v21=>
   jx (f24 (I [dr.2.2,v21])) fun ej=>
   cond (decide (dr.2.2=0))
    (jx (f27 dr.1 a1) fun dM=>
    jx (f28 dr.1 a1) fun v28=>
    jx (f25 (decide (dM<0)) 10) fun v30=>
    jx (f25 (decide (v28<0)) 10) fun gq=>
    cond (decide (0≤dM))
     (jx (zq (dr.1.units.getD []) dM) fun oG=>
     jx (f29 oG) fun v37=>
     jx (f30 dr.1 oG) fun yJ=>
     jx (f31 dr.1 oG) fun px=>
     cond (decide (0≤v28))
      (jx (f32 dr.1 a1) fun vi=>
      cond (decide (ej=0))
       (jx (f33 dr.1 a1) fun Wq=>
       jx (f34 v7.1 v7.2 v37.1 v30) fun v49=>
       cond v49
        (jx (f34 v9.1 v9.2 vi.1 gq) fun Wi=>
        cond Wi
         (jx (f34 v11.1 v11.2 yJ.1 v30) fun v55=>
         cond v55
          (cond (decide (dq=px))
           (cond (decide (da.1=Wq))
            (cond (decide (da.2=ej))
             (jx (E8) fun sO=>
             I sO)
             (I Eh))
            (I Eh))
           (I Eh))
          (I Eh))
         (I Eh))
        (I Eh))
       (jx (f34 v7.1 v7.2 v37.1 v30) fun Wr=>
       cond Wr
        (jx (f34 v9.1 v9.2 vi.1 gq) fun v66=>
        cond v66
         (jx (f34 v11.1 v11.2 yJ.1 v30) fun Og=>
         cond Og
          (cond (decide (dq=px))
           (cond (decide (da.1=0))
            (cond (decide (da.2=ej))
             (jx (E8) fun v75=>
             I v75)
             (I Eh))
            (I Eh))
           (I Eh))
          (I Eh))
         (I Eh))
        (I Eh)))
      (cond (decide (ej=0))
       (jx (f33 dr.1 a1) fun Oh=>
       jx (f34 v7.1 v7.2 v37.1 v30) fun v80=>
       cond v80
        (jx (f34 v9.1 v9.2 El gq) fun I6=>
        cond I6
         (jx (f34 v11.1 v11.2 yJ.1 v30) fun Ws=>
         cond Ws
          (cond (decide (dq=px))
           (cond (decide (da.1=Oh))
            (cond (decide (da.2=ej))
             (jx (E8) fun wK=>
             I wK)
             (I Eh))
            (I Eh))
           (I Eh))
          (I Eh))
         (I Eh))
        (I Eh))
       (jx (f34 v7.1 v7.2 v37.1 v30) fun v94=>
       cond v94
        (jx (f34 v9.1 v9.2 El gq) fun I7=>
        cond I7
         (jx (f34 v11.1 v11.2 yJ.1 v30) fun WB=>
         cond WB
          (cond (decide (dq=px))
           (cond (decide (da.1=0))
            (cond (decide (da.2=ej))
             (jx (E8) fun WC=>
             I WC)
             (I Eh))
            (I Eh))
           (I Eh))
          (I Eh))
         (I Eh))
        (I Eh))))
     (cond (decide (0≤v28))
      (jx (f32 dr.1 a1) fun v109=>
      cond (decide (ej=0))
       (jx (f33 dr.1 a1) fun WD=>
       jx (f34 v7.1 v7.2 El v30) fun WE=>
       cond WE
        (jx (f34 v9.1 v9.2 v109.1 gq) fun v117=>
        cond v117
         (jx (f34 v11.1 v11.2 El v30) fun WG=>
         cond WG
          (cond (decide (dq=v30))
           (cond (decide (da.1=WD))
            (cond (decide (da.2=ej))
             (jx (E8) fun WH=>
             I WH)
             (I Eh))
            (I Eh))
           (I Eh))
          (I Eh))
         (I Eh))
        (I Eh))
       (jx (f34 v7.1 v7.2 El v30) fun WI=>
       cond WI
        (jx (f34 v9.1 v9.2 v109.1 gq) fun v131=>
        cond v131
         (jx (f34 v11.1 v11.2 El v30) fun WJ=>
         cond WJ
          (cond (decide (dq=v30))
           (cond (decide (da.1=0))
            (cond (decide (da.2=ej))
             (jx (E8) fun WK=>
             I WK)
             (I Eh))
            (I Eh))
           (I Eh))
          (I Eh))
         (I Eh))
        (I Eh)))
      (cond (decide (ej=0))
       (jx (f33 dr.1 a1) fun v143=>
       jx (f34 v7.1 v7.2 El v30) fun v145=>
       cond v145
        (jx (f34 v9.1 v9.2 El gq) fun v148=>
        cond v148
         (jx (f34 v11.1 v11.2 El v30) fun WL=>
         cond WL
          (cond (decide (dq=v30))
           (cond (decide (da.1=v143))
            (cond (decide (da.2=ej))
             (jx (E8) fun v157=>
             I v157)
             (I Eh))
            (I Eh))
           (I Eh))
          (I Eh))
         (I Eh))
        (I Eh))
       (jx (f34 v7.1 v7.2 El v30) fun v159=>
       cond v159
        (jx (f34 v9.1 v9.2 El gq) fun v162=>
        cond v162
         (jx (f34 v11.1 v11.2 El v30) fun WM=>
         cond WM
          (cond (decide (dq=v30))
           (cond (decide (da.1=0))
            (cond (decide (da.2=ej))
             (jx (E8) fun v171=>
             I v171)
             (I Eh))
            (I Eh))
           (I Eh))
          (I Eh))
         (I Eh))
        (I Eh)))))
    (cond (decide (ej=0))
     (jx (f33 dr.1 a1) fun WN=>
     jx (f34 v7.1 v7.2 El dr.2.2) fun WO=>
     cond WO
      (jx (f34 v9.1 v9.2 El dr.2.2) fun WQ=>
      cond WQ
       (jx (f34 v11.1 v11.2 El dr.2.2) fun v182=>
       cond v182
        (cond (decide (dq=dr.2.2))
         (cond (decide (da.1=WN))
          (cond (decide (da.2=ej))
           (jx (E8) fun WR=>
           I WR)
           (I Eh))
          (I Eh))
         (I Eh))
        (I Eh))
       (I Eh))
      (I Eh))
     (jx (f34 v7.1 v7.2 El dr.2.2) fun WS=>
     cond WS
      (jx (f34 v9.1 v9.2 El dr.2.2) fun v193=>
      cond v193
       (jx (f34 v11.1 v11.2 El dr.2.2) fun v196=>
       cond v196
        (cond (decide (dq=dr.2.2))
         (cond (decide (da.1=0))
          (cond (decide (da.2=ej))
           (jx (E8) fun WT=>
           I WT)
           (I Eh))
          (I Eh))
         (I Eh))
        (I Eh))
       (I Eh))
      (I Eh)))))
  (jx (E8) fun WU=>
  I WU)
theorem W5 {a0:Option (List ql)}{a1:List UInt8}{r}(h:f5 a0 a1=I r):jz dD (X dD) 5 [sl 5 vev a0,.str a1]=I (.bool r,Eh):=by
 unfold f5 at h
 refine yt c5 ?_
 repeat' first|(replace h:=jy h;obtain⟨d,g,h⟩:=h; (with_reducible first|replace g:=zho g|replace g:=Q8 g|replace g:=j1p g|replace g:=j1h g|replace g:=jw0 g|replace g:=j5l g|replace g:=j2z g|replace g:=j5g g|replace g:=j21 g|replace g:=jxc g|replace g:=jwb g|replace g:=j3x g|replace g:=j4w g|replace g:=j07 g|replace g:=jyn g|replace g:=jxt g|replace g:=jzo g|replace g:=j4e g|replace g:=jxz g|skip);try dsimp only[ki,jN,List.map,kn,yp,z8,zu,bf,y8,vev,aV,zz,dp,aE,aR,aU,aL,aP,aD]at g)|(replace h:=j6 h;rcases h with⟨g,h⟩|⟨g,h⟩)|fail
 all_goals (cases h<;>(simp only[go_sem,seval,c5,zn, *];exact⟨_,rfl⟩))
end Go.Z
