/- The program with the result of the fixed examples. -/
import Derived.Test.YtfopaakmgogpiaaGreatDoorAZ
import Derived.Test.YtfopaakmgogpiaaGreatDoorW18
import Derived.Test.YtfopaakmgogpiaaGreatDoorW20
set_option linter.unusedVariables false
set_option linter.unusedSimpArgs false
set_option maxRecDepth 100000
noncomputable section
open Option renaming some→I,none→En
open Bool renaming false→Eh
open List renaming map→Ek
namespace Go.Z
open Go Go.Abs Go.Proofs
def tAw:List qa→Option (qa×Bool)
 | []=>I (.bool true,Eh)
 |_=>En
def Yq:Ea:=fun k=>bif Nat.beq k 8 then I tAw else En
def opZ:Nat→Bool:=fun k=>Nat.ble 3 k&&Nat.ble k 6
def fo:qr:=mJ pr Yq opZ
theorem okZ:qw Tryz.prog fo:=jg1 (okM ok0) (by
 intro k f hf
 simp only[Yq,Bool.cond_eq_ite]at hf
 split at hf
 ·next hb=>
  cases hf
  obtain rfl:=Nat.eq_of_beq_eq_true hb
  refine⟨uD (k:=8) (by kernel_rfl),fun args v o h _ _=>?_⟩
  cases args with
  |nil=>cases h;exact jfm
  |cons a l=>cases h
 ·cases hf)
theorem vI {k}(ho:opZ k=Eh)(hm:Yq k=En){args v o}(h:jy pr (X pr) k args=I (v,o))(hv:below 0 v=true):jy fo (X fo) k args=I (v,o):=jak ho hm h hv
def E8:Option Bool:=I true
theorem Q8 {r}(h:E8=I r):jy fo (X fo) 8 []=I (.bool r,Eh):=by
 cases h
 exact q9z (f:=tAw) rfl rfl rfl rfl
end Go.Z
set_option maxHeartbeats 4000000
namespace Go.Z
open Go Go.Abs Go.W
theorem zeu {a0 a1 r}(h:f7 a0 a1=I r):jy fo (X fo) 7 [sl 5 vev a0,Iv a1]=I (.bool r,Eh):=vI rfl rfl (W7 h) (by first|rfl|simp only[go_sem,seval])
theorem j0g {a0 r}(h:f10 a0=I r):jy fo (X fo) 10 [sl 5 vev a0]=I (.ay [aR r.1,Iv r.2.1,Iv r.2.2],Eh):=vI rfl rfl (W10 h) (by first|rfl|simp only[go_sem,seval])
theorem j8a {a0 r}(h:f24 a0=I r):jy fo (X fo) 24 [sl 1 kh a0]=I (Iv r,Eh):=vI rfl rfl (W24 h) (by first|rfl|simp only[go_sem,seval])
theorem j4c {a0 a1 r}(h:f25 a0 a1=I r):jy fo (X fo) 25 [.bool a0,Iv a1]=I (Iv r,Eh):=vI rfl rfl (W25 h) (by first|rfl|simp only[go_sem,seval])
theorem j63 {a0 a1 a2 a3 r}(h:f34 a0 a1 a2 a3=I r):jy fo (X fo) 34 [sl 1 zk a0,Iv a1,sl 1 zk a2,Iv a3]=I (.bool r,Eh):=vI rfl rfl (W34 h) (by first|rfl|simp only[go_sem,seval])
theorem j64 {a0 a1 r}(h:f35 a0 a1=I r):jy fo (X fo) 35 [sl 5 vev a0,sl 1 zk a1]=I (.ay [sl 1 zk r.1,Iv r.2],Eh):=vI rfl rfl (W35 h) (by first|rfl|simp only[go_sem,seval])
theorem j7e {a0 a1 r}(h:f36 a0 a1=I r):jy fo (X fo) 36 [sl 5 vev a0,sl 1 zk a1]=I (.ay [sl 1 zk r.1,Iv r.2],Eh):=vI rfl rfl (W36 h) (by first|rfl|simp only[go_sem,seval])
theorem j7f {a0 a1 a2 r}(h:f37 a0 a1 a2=I r):jy fo (X fo) 37 [aR a0,sl 1 zk a1,.bool a2]=I (Iv r,Eh):=vI rfl rfl (W37 h) (by first|rfl|simp only[go_sem,seval])
theorem j2h {a0 a1 r}(h:f38 a0 a1=I r):jy fo (X fo) 38 [aR a0,sl 1 zk a1]=I (sl 1 zk r.1,r.2):=vI rfl rfl (W38 h) (by first|rfl|simp only[go_sem,seval])
theorem j18 {a0 a1 r}(h:f39 a0 a1=I r):jy fo (X fo) 39 [aR a0,sl 1 zk a1]=I (sl 1 zk r.1,r.2):=vI rfl rfl (W39 h) (by first|rfl|simp only[go_sem,seval])
def wG (a0:Option (List ql))(a1:Option (List (List UInt8)))(a2:Option (List (List UInt8)))(s0:Int):Option (Int⊕(Bool⊕Int)):=
 cond (decide (s0<(max ((a1.getD []).length:Int) ((a2.getD []).length:Int))))
  (cond (decide (s0<((a1.getD []).length:Int)))
   (jw (zn (a1.getD []) s0) fun JC=>
   cond (decide (40<(JC.length:Int)))
    (jw (E8) fun v51=>
    I (.inr (.inl v51)))
    (cond (decide (s0<((a2.getD []).length:Int)))
     (jw (zn (a2.getD []) s0) fun tc=>
     cond (decide (40<(tc.length:Int)))
      (jw (E8) fun Fv=>
      I (.inr (.inl Fv)))
      (I (.inl (j6 .i64 (s0+1)))))
     (I (.inl (j6 .i64 (s0+1))))))
   (cond (decide (s0<((a2.getD []).length:Int)))
    (jw (zn (a2.getD []) s0) fun XY=>
    cond (decide (40<(XY.length:Int)))
     (jw (E8) fun XZ=>
     I (.inr (.inl XZ)))
     (I (.inl (j6 .i64 (s0+1)))))
    (I (.inl (j6 .i64 (s0+1))))))
  (I (.inr (.inr s0)))
def zF (a0:Option (List ql))(a1:Option (List (List UInt8)))(a2:Option (List (List UInt8)))(s0:Int):qg:=⟨[(0,sl 5 vev a0,Eh),(1,sl 1 zk a1,Eh),(2,sl 1 zk a2,Eh),(47,Iv (max ((a1.getD []).length:Int) ((a2.getD []).length:Int)),Eh),(48,Iv s0,Eh)],[]⟩
def zG (a0:Option (List ql))(a1:Option (List (List UInt8)))(a2:Option (List (List UInt8))):Bool⊕Int→qi×qg
 | .inl d=>(.ret,⟨[(6,.bool d,Eh)],[]⟩)
 | .inr d=>(.exit 0,⟨[(0,sl 5 vev a0,Eh),(1,sl 1 zk a1,Eh),(2,sl 1 zk a2,Eh),(47,Iv (max ((a1.getD []).length:Int) ((a2.getD []).length:Int)),Eh),(48,Iv d,Eh),(49,.bool Eh,Eh)],[]⟩)
theorem zck (a0:Option (List ql))(a1:Option (List (List UInt8)))(a2:Option (List (List UInt8)))(s0:Int)(r)(h:wG a0 a1 a2 s0=I r):yr fo My (zF a0 a1 a2) (zG a0 a1 a2) s0 r:=by
 unfold wG at h
 repeat' first|(replace h:=jx h;obtain⟨d,g,h⟩:=h;with_reducible first|replace g:=Q8 g|skip)|(replace h:=jz h;rcases h with⟨g,h⟩|⟨g,h⟩)|fail
 all_goals (cases h<;>(first|(refine zu ?_;simp only[go_sem,seval,My,zF,zj,zG, *]<;>rfl)|(refine yl ?_;simp only[go_sem,seval,My,zF,zj,zG, *]<;>rfl)))
theorem Qe (a0:Option (List ql))(a1:Option (List (List UInt8)))(a2:Option (List (List UInt8))){s0 d}(h:aY (wG a0 a1 a2) s0=I d):X fo (.loop My) (zF a0 a1 a2 s0)=I (zG a0 a1 a2 d):=y8 (zck a0 a1 a2) (fun d=>by rcases d with d|d<;>(intro hh;cases hh)) h
def Ja (a0:Option (List ql))(a1 a2:Option (List (List UInt8))):Option Bool:=
 jw (bj (I []) (a1.getD [])) fun zB=>
 jw (f35 a0 zB) fun vJ=>
 jw (bj (I []) (a2.getD [])) fun v73=>
 jw (f36 a0 v73) fun v75=>
 jw (f10 a0) fun tv=>
 cond (decide (tv.2.2=0))
  (jw (f37 tv.1 a1 Eh) fun v80=>
  jw (f37 tv.1 a2 true) fun Yp=>
  jw (f25 (decide (((a2.getD []).length:Int)=0)) 12) fun v84=>
  jw (f24 (I [Yp,v84])) fun zC=>
  cond (decide (v80=0))
   (jw (f38 tv.1 a1) fun v89=>
   cond (decide (zC=0))
    (jw (f39 tv.1 a2) fun wZ=>
    jw (f34 vJ.1 vJ.2 v89.1 v80) fun v94=>
    cond v94
     (jw (f34 v75.1 v75.2 wZ.1 zC) fun Kg=>
     cond Kg
      (jw (E8) fun Yr=>
      I Yr)
      (I Eh))
     (I Eh))
    (jw (f34 vJ.1 vJ.2 v89.1 v80) fun BW=>
    cond BW
     (jw (f34 v75.1 v75.2 En zC) fun v105=>
     cond v105
      (jw (E8) fun Ys=>
      I Ys)
      (I Eh))
     (I Eh)))
   (cond (decide (zC=0))
    (jw (f39 tv.1 a2) fun Yt=>
    jw (f34 vJ.1 vJ.2 En v80) fun Yu=>
    cond Yu
     (jw (f34 v75.1 v75.2 Yt.1 zC) fun Yv=>
     cond Yv
      (jw (E8) fun Yw=>
      I Yw)
      (I Eh))
     (I Eh))
    (jw (f34 vJ.1 vJ.2 En v80) fun Yx=>
    cond Yx
     (jw (f34 v75.1 v75.2 En zC) fun v124=>
     cond v124
      (jw (E8) fun v127=>
      I v127)
      (I Eh))
     (I Eh))))
  (jw (f34 vJ.1 vJ.2 En tv.2.2) fun Cj=>
  cond Cj
   (jw (f34 v75.1 v75.2 En tv.2.2) fun Yy=>
   cond Yy
    (jw (E8) fun Ck=>
    I Ck)
    (I Eh))
   (I Eh))
def Mz (a0:Option (List ql))(a1 a2:Option (List (List UInt8))):Option Bool:=
 jw (aY (wG a0 a1 a2) 0) fun d=>match d with
 | .inl d=>I d
 | .inr _=>Ja a0 a1 a2
def f6 (a0:Option (List ql))(a1:Option (List (List UInt8)))(a2:Option (List (List UInt8))):Option Bool:=
 jw (f7 a0 24) fun v1=>
 cond v1
  (cond (decide (6<((a1.getD []).length:Int)))
   (cond (decide (((a1.getD []).length:Int)=257))
    (cond (decide (6<((a2.getD []).length:Int)))
     (cond (decide (((a2.getD []).length:Int)=257)) (Mz a0 a1 a2) (jw (E8) fun v=>I v))
     (Mz a0 a1 a2))
    (jw (E8) fun v=>I v))
   (cond (decide (6<((a2.getD []).length:Int)))
    (cond (decide (((a2.getD []).length:Int)=257)) (Mz a0 a1 a2) (jw (E8) fun v=>I v))
    (Mz a0 a1 a2)))
  (jw (E8) fun v=>I v)
theorem W6 {a0 a1 a2 r}(h:f6 a0 a1 a2=I r):jy fo (X fo) 6 [sl 5 vev a0,sl 1 zk a1,sl 1 zk a2]=I (.bool r,Eh):=by
 unfold f6 at h
 refine yz c6 ?_
 repeat' first|(replace h:=jx h;obtain⟨d,g,h⟩:=h; (with_reducible first|replace g:=zeu g|replace g:=j64 g|replace g:=j7e g|replace g:=j0g g|replace g:=j7f g|replace g:=j4c g|replace g:=j8a g|replace g:=j2h g|replace g:=j18 g|replace g:=j63 g|replace g:=Q8 g|(replace g:=Qe a0 a1 a2 g;rcases d with d|d<;>dsimp only[zF,zG,y7,hH,Ek,kh,zk,zw,zm,aQ,y9,vev,aV,zx,db]at g h)|(replace g:=Qe a0 a1 a2 g;rcases d with d|d<;>dsimp only[zF,zG,y7,hH,Ek,kh,zk,zw,zm,aQ,y9,vev,aV,zx,db]at g h)|(replace g:=Qe a0 a1 a2 g;rcases d with d|d<;>dsimp only[zF,zG,y7,hH,Ek,kh,zk,zw,zm,aQ,y9,vev,aV,zx,db]at g h)|(replace g:=Qe a0 a1 a2 g;rcases d with d|d<;>dsimp only[zF,zG,y7,hH,Ek,kh,zk,zw,zm,aQ,y9,vev,aV,zx,db]at g h)|skip);try dsimp only[y7,hH,Ek,kh,zk,zw,zm,aQ,y9,vev,aV,zx,db,aE,aR,aU,aL,aP,aD]at g)|(replace h:=jz h;rcases h with⟨g,h⟩|⟨g,h⟩)|(unfold Mz at h)|(unfold Ja at h)|fail
 all_goals (cases h<;>(simp only[go_sem,seval,c6,lN, *];exact⟨_,rfl⟩))
end Go.Z
end
