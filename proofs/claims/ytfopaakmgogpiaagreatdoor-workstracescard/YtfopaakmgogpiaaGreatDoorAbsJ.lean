/- Equations of the executor, second part. -/
import Derived.Test.YtfopaakmgogpiaaGreatDoorAbsI
set_option linter.unusedVariables false
set_option linter.unusedSimpArgs false
open Option renaming some→I,none→Eh
open Bool renaming false→El,true→Eo
open Nat renaming beq→En,ble→Ev,blt→E5,eq_of_beq_eq_true→E6
namespace Go.Abs
section
variable {p:qr}{xc:XC}{h0:Nat}{al:Option (List Nat)}{e:Env}{h:j8}{α:Type}
attribute [go_sem] List.getElem?_cons_zero List.getElem?_cons_succ List.getElem?_nil List.set_cons_zero List.set_cons_succ List.set_nil List.cons_append List.replicate_zero List.replicate_succ List.map_cons List.map_nil List.all_cons List.all_nil List.drop_zero List.drop_succ_cons List.take_zero List.take_succ_cons List.drop_nil List.take_nil Bool.and_true Bool.true_and Bool.or_false Bool.false_or Bool.and_self List.headD_cons List.foldl_cons List.foldl_nil List.flatMap_cons List.flatMap_nil
@[go_sem] theorem zi8 {k:IntKind}{n:Int}:ze (.int k n)=Eo:=rfl
@[go_sem] theorem ziu {b:Bool}:ze (.bool b)=Eo:=rfl
@[go_sem] theorem zjk {s:List UInt8}:ze (.str s)=Eo:=rfl
@[go_sem] theorem zib {b:Bool}{z:Nat}{xs:List qa}:ze (.list b z xs)=Eo:=rfl
@[go_sem] theorem zjo {b o n:Nat}:ze (.ms b o n)=Eo:=rfl
@[go_sem] theorem zjd {b o:Nat}:ze (.ptr b o)=Eo:=rfl
@[go_sem] theorem zi2 {b:Nat}:ze (.map b)=Eo:=rfl
@[go_sem] theorem j74:ze .bN=Eo:=rfl
@[go_sem] theorem j8l:ze .bM=Eo:=rfl
@[go_sem] theorem zcg:ze .bX=Eo:=rfl
@[go_sem] theorem zj7 {f:Fn}{a b:List qa}:ze (.fn f a b)=Eo:=rfl
@[go_sem] theorem zjz {z:Nat}{f:α→qa}{l:Option (List α)}:ze (sl z f l)=Eo:=by cases l<;>rfl
@[go_sem] theorem zgd {cs:List qa}:qa.flat (.agg cs)=cs:=rfl
@[go_sem] theorem zdm {k:IntKind}{n:Int}:qa.flat (.int k n)=[.int k n]:=rfl
@[go_sem] theorem j7m {b:Bool}:qa.flat (.bool b)=[.bool b]:=rfl
@[go_sem] theorem zd6 {s:List UInt8}:qa.flat (.str s)=[.str s]:=rfl
@[go_sem] theorem j6k {b:Bool}{z:Nat}{xs:List qa}:qa.flat (.list b z xs)=[.list b z xs]:=rfl
@[go_sem] theorem zh2 {z:Nat}{f:α→qa}{l:Option (List α)}:qa.flat (sl z f l)=[sl z f l]:=by cases l<;>rfl
@[go_sem] theorem zdl {b o:Nat}:qa.flat (.ptr b o)=[.ptr b o]:=rfl
@[go_sem] theorem zg4 {b:Nat}:qa.flat (.map b)=[.map b]:=rfl
@[go_sem] theorem zih {f:Fn}{a b:List qa}:qa.flat (.fn f a b)=[.fn f a b]:=rfl
@[go_sem] theorem ziq {b o n:Nat}:qa.flat (.ms b o n)=[.ms b o n]:=rfl
@[go_sem] theorem Na {a b:Nat}:En a b=decide (a=b):=by
 cases h:En a b with
 |true=>have:=E6 h;simp[this]
 |false=>
  have:a≠b:=fun hh=>by subst hh;simp at h
  simp[this]
@[go_sem] theorem mQ {a b:Nat}:Ev a b=decide (a≤b):=by
 cases h:Ev a b with
 |true=>have:=Nat.le_of_ble_eq_true h;simp[this]
 |false=>
  have:¬a≤b:=fun hh=>by rw[Nat.ble_eq_true_of_le hh]at h;cases h
  simp[this]
@[go_sem] theorem uJ {a b:Nat}:E5 a b=decide (a<b):=by
 show Ev (a+1) b=_
 rw[mQ];rfl
@[go_sem] theorem j6z {b:Nat}:yw h0 Eh b=Eo:=rfl
@[go_sem] theorem zh4:nY []=El:=rfl
@[go_sem] theorem zbl {k:Nat}{l:List Nat}:nY (k::l)=decide (1000≤k):=by simp only[nY,mQ]
@[go_sem] theorem j82 {k b:Nat}{l:List Nat}:zm h0 (k::l) b=cond (decide (k<2000)) (decide (b=k-1000)&&decide (b<h0)) (cond (decide (k<4000)) (decide (b=h0+(k-2000))) (decide (b<h0))):=by
 have e:∀x y:Nat,En x y=decide (x=y):=fun x y=>by
  cases h:En x y with
  |true=>rw[E6 h];simp
  |false=>
   have:x≠y:=fun e=>by rw[e,Nat.beq_refl]at h;cases h
   simp[this]
 simp only[zm,uJ,e]
@[go_sem] theorem jxn {b:Nat}{l:List Nat}:yw h0 (I l) b=cond (nY l) (zm h0 l b) (decide (b<h0)||l.contains (b-h0)):=by simp only[yw,uJ]
def gV (r:Option j8)(v:qa):Option qq:=match r with
 |some h'=>I ⟨v,El,Eh,h'⟩
 |none=>Eh
@[go_sem] theorem j56 {v:qa}:gV (I h) v=I ⟨v,El,Eh,h⟩:=rfl
@[go_sem] theorem j73 {h0 r:Nat}{es:List (qa×qa)}:M9 h0 r h Eo (I es)=gV (aI h0 h r (.map es)) (.map (h0+r)):=rfl
def Uj (n:Nat)(h:j8)(b:Option qm)(x:qm):Option j8:=match b with
 |some .hole=>I (h.set n x)
 |_=>Eh
@[go_sem] theorem j69 {n:Nat}{x:qm}:Uj n h (I .hole) x=I (h.set n x):=rfl
@[go_sem] theorem j8c {r:Nat}{x:qm}:aI h0 h r x=Uj (h0+r) h h[h0+r]? x:=by
 unfold aI Uj;rfl
def bT (b:Bool)(r:Option qq):Option qq:=match b with
 |true=>r
 |false=>Eh
@[go_sem] theorem zbn {r:Option qq}:bT Eo r=r:=rfl
@[go_sem] theorem zir {r:Nat}{z:List qa}:za p xc h0 al e h (.alloc r z)=bT (z.all ze) (gV (aI h0 h r (.cells (cellsOf z))) (.ptr (h0+r) 0)):=by
 simp only[za,zk,bT]
 cases z.all ze with
 |false=>rfl
 |true=>simp only[cT,gV];cases aI h0 h r (.cells (cellsOf z))<;>rfl
def Uk (n:Nat)(h:j8)(x:Option qa):Option qq:=match x with
 |some v=>bT (En v.flat.length n&&v.flat.all ze) (I ⟨.ah v,El,Eh,h⟩)
 |none=>Eh
@[go_sem] theorem jx4 {n:Nat}{v:qa}:Uk n h (I v)=bT (En v.flat.length n&&v.flat.all ze) (I ⟨.ah v,El,Eh,h⟩):=rfl
@[go_sem] theorem zi0 {n:Nat}{x:qf}:za p xc h0 al e h (.nW n x)=Uk n h (zd e x):=by
 simp only[za,zi,Uk]
 cases zd e x with
 |none=>rfl
 |some v=>
  simp only[bT]
  cases (En v.flat.length n&&v.flat.all ze)<;>rfl
def Ul (h0 r n:Nat)(h:j8)(x:Option qa):Option qq:=match x with
 |some v=>bT (En v.flat.length n&&v.flat.all ze) (gV (aI h0 h r (.cells (cellsOf v.flat))) (.ptr (h0+r) 0))
 |none=>Eh
@[go_sem] theorem j8g {r n:Nat}{v:qa}:Ul h0 r n h (I v)=bT (En v.flat.length n&&v.flat.all ze) (gV (aI h0 h r (.cells (cellsOf v.flat))) (.ptr (h0+r) 0)):=rfl
@[go_sem] theorem zj0 {r n:Nat}{x:qf}:za p xc h0 al e h (.box r n x)=Ul h0 r n h (zd e x):=by
 simp only[za,zk,Ul]
 cases zd e x with
 |none=>rfl
 |some v=>
  simp only[bT,gV]
  cases (En v.flat.length n&&v.flat.all ze)with
  |false=>rfl
  |true=>simp only[cT];cases aI h0 h r (.cells (cellsOf v.flat))<;>rfl
@[go_sem] theorem ziw {r:Nat}:za p xc h0 al e h (.dQ r)=gV (aI h0 h r (.map [])) (.map (h0+r)):=by
 simp only[za,zk,gV]
 cases aI h0 h r (.map [])<;>rfl
@[go_sem] theorem jvi:cellsOf []=[]:=rfl
@[go_sem] theorem jto {v:qa}{vs:List qa}:cellsOf (v::vs)=(v,El)::cellsOf vs:=rfl
def uK (agg:Bool)(h:j8)(r:Option qa):Option qq:=match r with
 |some v=>bif Bool.xor agg v.isAgg then Eh else val h (.ah v)
 |none=>Eh
def DS (agg:Bool)(off n:Nat)(h:j8)(x:Option qa):Option qq:=match x with
 |some (.ptr b o)=>val h (.ptr b (o+off))
 |some (.ah (.agg cs))=>uK agg h (part agg cs off n)
 |some (.dk b bu o)=>val h (.dk b bu (o+off))
 |_=>Eh
@[go_sem] theorem jnj {agg:Bool}{off n b v o:Nat}:DS agg off n h (I (.dk b v o))=I ⟨.dk b v (o+off),El,Eh,h⟩:=rfl
@[go_sem] theorem jm9 {agg:Bool}{off n b o:Nat}:DS agg off n h (I (.ptr b o))=I ⟨.ptr b (o+off),El,Eh,h⟩:=rfl
@[go_sem] theorem jlh {agg:Bool}{off n:Nat}{cs:List qa}:DS agg off n h (I (.ah (.agg cs)))=uK agg h (part agg cs off n):=rfl
@[go_sem] theorem jug {agg:Bool}{off n:Nat}{x:qf}:za p xc h0 al e h (.fieldAddr agg off n x)=DS agg off n h (zd e x):=by
 simp only[za,zi,DS]
 cases zd e x with
 |none=>rfl
 |some v=>cases v with
  |ah v=>cases v<;>rfl
  |_=>rfl
def zi1 (v:qa):Prop:=v.isAgg=El
theorem j6f {v:qa}(hv:v.isAgg=El):uK El h (I v)=I ⟨.ah v,El,Eh,h⟩:=by simp[uK,hv,val]
@[go_sem] theorem j6j {k:IntKind}{n:Int}:uK El h (I (.int k n))=I ⟨.ah (.int k n),El,Eh,h⟩:=rfl
@[go_sem] theorem j8e {s:List UInt8}:uK El h (I (.str s))=I ⟨.ah (.str s),El,Eh,h⟩:=rfl
@[go_sem] theorem jzs {b:Bool}:uK El h (I (.bool b))=I ⟨.ah (.bool b),El,Eh,h⟩:=rfl
@[go_sem] theorem j8r {z:Nat}{f:α→qa}{l:Option (List α)}:uK El h (I (sl z f l))=I ⟨.ah (sl z f l),El,Eh,h⟩:=by cases l<;>rfl
@[go_sem] theorem j8k {cs:List qa}:uK Eo h (I (.agg cs))=I ⟨.ah (.agg cs),El,Eh,h⟩:=rfl
@[go_sem] theorem j9d {cs:List qa}{off n:Nat}:part El cs off n=cs[off]?:=rfl
def Um (b:Bool)(cs:List qa)(off n:Nat):Option qa:=match b with
 |true=>I (.agg ((cs.drop off).take n))
 |false=>Eh
@[go_sem] theorem jzk {cs:List qa}{off n:Nat}:Um Eo cs off n=I (.agg ((cs.drop off).take n)):=rfl
@[go_sem] theorem zay {cs:List qa}{off n:Nat}:part Eo cs off n=Um (decide (off+n≤cs.length)) cs off n:=by
 simp only[part,Um,cT,mQ]
 cases decide (off+n≤cs.length)<;>rfl
@[go_sem] theorem zhm {z:Nat}{f:α→qa}{l:Option (List α)}:fN h0 al El 1 h (I (.ah (sl z f l)))=I ⟨sl z f l,El,Eh,h⟩:=by cases l<;>rfl
def Un (h:j8)(cs:List qa)(b:Bool):Option qq:=match b with
 |true=>I ⟨.agg cs,El,Eh,h⟩
 |false=>Eh
@[go_sem] theorem j6c {cs:List qa}:Un h cs Eo=I ⟨.agg cs,El,Eh,h⟩:=rfl
@[go_sem] theorem jyb {n:Nat}{cs:List qa}:fN h0 al Eo n h (I (.ah (.agg cs)))=Un h cs (decide (cs.length=n)):=by
 unfold Un
 by_cases hn:cs.length=n
 ·rw[jak hn];simp[hn]
 ·simp[fN,qa.isAgg,qa.flat,hn,Na]
def GH (agg:Bool)(h:j8)(vs:Option (List qa)):Option qq:=match vs with
 |some vs=>bif agg then val h (.agg vs)else(match vs with
  | [v]=>val h v
  |_=>Eh)
 |none=>Eh
@[go_sem] theorem zg3 {vs:List qa}:GH Eo h (I vs)=I ⟨.agg vs,El,Eh,h⟩:=rfl
@[go_sem] theorem zca {v:qa}:GH El h (I [v])=I ⟨v,El,Eh,h⟩:=rfl
def Uo (b:Option qm):Option (List (qa×Bool)):=match b with
 |some (.cells cs)=>I cs
 |_=>Eh
@[go_sem] theorem jvj {cs:List (qa×Bool)}:Uo (I (.cells cs))=I cs:=rfl
@[go_sem] theorem q5g {b:Nat}:yl h b=Uo h[b]?:=by unfold yl Uo;rfl
def Up (b:Bool)(cs:List (qa×Bool))(off n:Nat):Option (List qa):=match b with
 |true=>I (((cs.drop off).take n).map (·.1))
 |false=>Eh
@[go_sem] theorem j9u {cs:List (qa×Bool)}{off n:Nat}:Up Eo cs off n=I (((cs.drop off).take n).map (·.1)):=rfl
@[go_sem] theorem jq7 {cs:List (qa×Bool)}{off n:Nat}:kc cs off n=Up (decide (off+n≤cs.length)) cs off n:=by
 simp only[kc,Up,mQ]
 cases decide (off+n≤cs.length)<;>rfl
def Uq (agg:Bool)(o n:Nat)(h:j8)(cs:Option (List (qa×Bool))):Option qq:=match cs with
 |some cs=>GH agg h (kc cs o n)
 |none=>Eh
@[go_sem] theorem j7b {agg:Bool}{o n:Nat}{cs:List (qa×Bool)}:Uq agg o n h (I cs)=GH agg h (kc cs o n):=rfl
@[go_sem] theorem j7t {agg:Bool}{n b o:Nat}:fN h0 al agg n h (I (.ptr b o))=bT (yw h0 al b) (Uq agg o n h (yl h b)):=by
 simp only[fN,bT,Uq,GH]
 cases yw h0 al b with
 |false=>rfl
 |true=>
  simp only[cT]
  cases yl h b with
  |none=>rfl
  |some cs=>simp only[];cases kc cs o n<;>rfl
def Nb (r:Option j8)(v:qa)(w:Bool):Option qq:=match r with
 |some h'=>I ⟨v,w,Eh,h'⟩
 |none=>Eh
@[go_sem] theorem j32 {v:qa}{w:Bool}:Nb (I h) v w=I ⟨v,w,Eh,h⟩:=rfl
def Nc (h:j8)(b o:Nat)(cs:List (qa×Bool))(x:Option (qa×Bool)):Option qq:=match x with
 |some (v,w)=>Nb (yj h b (.cells (cs.set o (v,El)))) v w
 |none=>Eh
@[go_sem] theorem j1n {b o:Nat}{cs:List (qa×Bool)}{v:qa}{w:Bool}:Nc h b o cs (I (v,w))=Nb (yj h b (.cells (cs.set o (v,El)))) v w:=rfl
def Nd (h:j8)(b o:Nat)(cs:Option (List (qa×Bool))):Option qq:=match cs with
 |some cs=>Nc h b o cs cs[o]?
 |none=>Eh
@[go_sem] theorem j5w {b o:Nat}{cs:List (qa×Bool)}:Nd h b o (I cs)=Nc h b o cs cs[o]?:=rfl
def Ur (h0:Nat)(al:Option (List Nat))(off:Option Nat)(h:j8)(x:Option qa):Option qq:=match x with
 |some (.ptr b o)=>bT (yw h0 al b&&uh off o) (Nd h b o (yl h b))
 |_=>Eh
@[go_sem] theorem jnb {off:Option Nat}{b o:Nat}:Ur h0 al off h (I (.ptr b o))=bT (yw h0 al b&&uh off o) (Nd h b o (yl h b)):=rfl
@[go_sem] theorem j1m {o:Nat}:uh Eh o=Eo:=rfl
@[go_sem] theorem j2b {a o:Nat}:uh (I a) o=decide (a=o):=by simp only[uh,Na]
@[go_sem] theorem j5t {off:Option Nat}{x:qf}:za p xc h0 al e h (.b8 off x)=Ur h0 al off h (zd e x):=by
 simp only[za,zk,Ur]
 cases zd e x with
 |none=>rfl
 |some v=>cases v with
  |ptr b o=>
   simp only[bT,Nd,Nc,Nb]
   cases (yw h0 al b&&uh off o)with
   |false=>rfl
   |true=>
    simp only[cT]
    cases yl h b with
    |none=>rfl
    |some cs=>
     simp only[]
     cases cs[o]? with
     |none=>rfl
     |some c=>
      obtain⟨v,w⟩:=c
      simp only[]
      cases yj h b (.cells (cs.set o (v,El)))<;>rfl
  |_=>rfl
def Us (b:Bool)(n:Nat)(x:qm)(h:j8):Option j8:=match b with
 |true=>I (h.set n x)
 |false=>Eh
@[go_sem] theorem j8b {n:Nat}{x:qm}:Us Eo n x h=I (h.set n x):=rfl
@[go_sem] theorem j6b {b:Nat}{x:qm}:yj h b x=Us (decide (b<h.length)) b x h:=by
 simp only[yj,Us,uJ]
 cases decide (b<h.length)<;>rfl
def Ut (b:Bool)(cs:List (qa×Bool))(off:Nat)(vs:List qa):Option (List (qa×Bool)):=match b with
 |true=>I (cs.take off++vs.map (·,El)++cs.drop (off+vs.length))
 |false=>Eh
@[go_sem] theorem zha {cs:List (qa×Bool)}{off:Nat}{vs:List qa}:Ut Eo cs off vs=I (cs.take off++vs.map (·,El)++cs.drop (off+vs.length)):=rfl
@[go_sem] theorem jnk {cs:List (qa×Bool)}{off:Nat}{vs:List qa}:yi cs off vs=Ut (decide (off+vs.length≤cs.length)&&vs.all ze) cs off vs:=by
 simp only[yi,Ut,mQ]
 cases (decide (off+vs.length≤cs.length)&&vs.all ze)<;>rfl
def zka (e:Env)(x:qf):Option Nat:=km e x
def Nf (t:Nat)(x:Option (qa×Bool)):Option Nat:=match x with
 |some (_,Eo)=>I t
 |_=>Eh
@[go_sem] theorem j8i {t:Nat}{v:qa}:Nf t (I (v,Eo))=I t:=rfl
@[go_sem] theorem jy1 {t:Nat}{v:qa}:Nf t (I (v,El))=Eh:=rfl
@[go_sem] theorem j6u {t:Nat}:km e (.tmp t)=Nf t (ye t e):=by
 simp only[km,Nf];rfl
@[go_sem] theorem jvf {v:qa}:km e (.const v)=Eh:=rfl
def Ng (h:j8)(b:Nat)(cs:Option (List (qa×Bool))):Option qq:=match cs with
 |some dX=>gV (yj h b (.cells dX)) .undef
 |none=>Eh
@[go_sem] theorem jtr {b:Nat}{cs:List (qa×Bool)}:Ng h b (I cs)=gV (yj h b (.cells cs)) .undef:=rfl
def Nh (t:Nat)(r:Option j8):Option qq:=match r with
 |some h'=>I ⟨.undef,El,I t,h'⟩
 |none=>Eh
@[go_sem] theorem j22 {t:Nat}:Nh t (I h)=I ⟨.undef,El,I t,h⟩:=rfl
def GI (n:Nat)(h:j8)(b o:Nat)(v:qa)(own:Option Nat)(cs:Option (List (qa×Bool))):Option qq:=match cs,own with
 |some cs,I t=>bT (En n 1&&v.cu&&E5 o cs.length) (Nh t (yj h b (.cells (cs.set o (v,Eo)))))
 |some cs,Eh=>bT (En v.flat.length n) (Ng h b (yi cs o v.flat))
 |none,_=>Eh
@[go_sem] theorem j4y {n b o t:Nat}{v:qa}{cs:List (qa×Bool)}:GI n h b o v (I t) (I cs)=bT (En n 1&&v.cu&&E5 o cs.length) (Nh t (yj h b (.cells (cs.set o (v,Eo))))):=rfl
@[go_sem] theorem js8 {n b o:Nat}{v:qa}{cs:List (qa×Bool)}:GI n h b o v Eh (I cs)=bT (En v.flat.length n) (Ng h b (yi cs o v.flat)):=rfl
def Uu (h0:Nat)(al:Option (List Nat))(n:Nat)(h:j8)(own:Option Nat)(a x:Option qa):Option qq:=match a,x with
 |some (.ptr b o),I v=>bT (yw h0 al b) (GI n h b o v own (yl h b))
 |_,_=>Eh
@[go_sem] theorem jze {n b o:Nat}{own:Option Nat}{v:qa}:Uu h0 al n h own (I (.ptr b o)) (I v)=bT (yw h0 al b) (GI n h b o v own (yl h b)):=rfl
@[go_sem] theorem zim {n:Nat}{a x:qf}:za p xc h0 al e h (.store n a x)=Uu h0 al n h (km e x) (zd e a) (zd e x):=by
 simp only[za,zk,Uu]
 cases zd e a with
 |none=>rfl
 |some va=>
  cases va with
  |ptr b o=>
   cases zd e x with
   |none=>rfl
   |some v=>
    simp only[bT]
    cases yw h0 al b with
    |false=>rfl
    |true=>
     simp only[cT]
     cases yl h b with
     |none=>rfl
     |some cs=>
      simp only[GI]
      cases km e x with
      |none=>
       simp only[bT,Ng,gV]
       cases En v.flat.length n with
       |false=>rfl
       |true=>
        simp only[cT]
        cases yi cs o v.flat with
        |none=>rfl
        |some dX=>simp only[];cases yj h b (.cells dX)<;>rfl
      |some t=>
       simp only[bT,Nh]
       cases (En n 1&&v.cu&&E5 o cs.length)with
       |false=>rfl
       |true=>simp only[cT];cases yj h b (.cells (cs.set o (v,Eo)))<;>rfl
  |_=>rfl
@[go_sem] theorem jux {b:Bool}{z:Nat}{xs:List qa}:qa.cu (.list b z xs)=Eo:=rfl
@[go_sem] theorem j6d {z:Nat}{f:α→qa}{l:Option (List α)}:qa.cu (sl z f l)=Eo:=by cases l<;>rfl
def Ni (b:Bool)(off:Nat)(vs:List qa)(l:Option (List (Nat×List qa))):Option (List (Nat×List qa)):=match b,l with
 |true,I r=>I ((off,vs)::r)
 |_,_=>Eh
@[go_sem] theorem jvd {off:Nat}{vs:List qa}{r:List (Nat×List qa)}:Ni Eo off vs (I r)=I ((off,vs)::r):=rfl
def Uv (x:Option qa)(off n:Nat)(l:Option (List (Nat×List qa))):Option (List (Nat×List qa)):=match x with
 |some v=>Ni (En v.flat.length n&&v.flat.all ze) off v.flat l
 |none=>Eh
@[go_sem] theorem juf {v:qa}{off n:Nat}{l:Option (List (Nat×List qa))}:Uv (I v) off n l=Ni (En v.flat.length n&&v.flat.all ze) off v.flat l:=rfl
@[go_sem] theorem jna:la e []=I []:=rfl
@[go_sem] theorem jka {off n:Nat}{x:qf}{l:List (Nat×Nat×qf)}:la e ((off,n,x)::l)=Uv (zd e x) off n (la e l):=by
 simp only[la,Uv,Ni]
 cases zd e x with
 |none=>rfl
 |some v=>simp only[];cases (En v.flat.length n&&v.flat.all ze)<;>cases la e l<;>rfl
def jM (h:j8)(zero:List qa)(ps:Option (List (Nat×List qa))):Option qq:=match ps with
 |some ps=>nF h (jC zero ps)
 |none=>Eh
where nF (h:j8) (r:Option (List qa)):Option qq:=match r with
 |some cs=>I ⟨.agg cs,El,Eh,h⟩
 |none=>Eh
@[go_sem] theorem jz1 {zero:List qa}{ps:List (Nat×List qa)}:jM h zero (I ps)=jM.nF h (jC zero ps):=rfl
@[go_sem] theorem j0q {cs:List qa}:jM.nF h (I cs)=I ⟨.agg cs,El,Eh,h⟩:=rfl
@[go_sem] theorem ziz {zero:List qa}{ps:List (Nat×Nat×qf)}:za p xc h0 al e h (.build zero ps)=jM h zero (la e ps):=by
 simp only[za,zi,jM,jM.nF]
 cases la e ps with
 |none=>rfl
 |some ps=>simp only[];cases jC zero ps<;>rfl
@[go_sem] theorem j6w {cs:List qa}:jC cs []=I cs:=rfl
def Uw (b:Bool)(cs:List qa)(off:Nat)(vs:List qa)(l:List (Nat×List qa)):Option (List qa):=match b with
 |true=>jC (cs.take off++vs++cs.drop (off+vs.length)) l
 |false=>Eh
@[go_sem] theorem j0x {cs:List qa}{off:Nat}{vs:List qa}{l:List (Nat×List qa)}:Uw Eo cs off vs l=jC (cs.take off++vs++cs.drop (off+vs.length)) l:=rfl
@[go_sem] theorem j39 {cs:List qa}{off:Nat}{vs:List qa}{l:List (Nat×List qa)}:jC cs ((off,vs)::l)=Uw (decide (off+vs.length≤cs.length)) cs off vs l:=by
 simp only[jC,Uw,mQ]
 cases decide (off+vs.length≤cs.length)<;>rfl
def gh (x:Option qa)(i sz:Nat)(l:Option (List (Nat×qa))):Option (List (Nat×qa)):=match x with
 |some v=>kF (En v.flat.length sz&&v.flat.all ze) i v l
 |none=>Eh
where kF (b:Bool) (i:Nat) (v:qa) (l:Option (List (Nat×qa))):Option (List (Nat×qa)):=match b,l with
 |true,I r=>I ((i,v)::r)
 |_,_=>Eh
@[go_sem] theorem jva {v:qa}{i sz:Nat}{l:Option (List (Nat×qa))}:gh (I v) i sz l=gh.kF (En v.flat.length sz&&v.flat.all ze) i v l:=rfl
@[go_sem] theorem ju1 {v:qa}{i:Nat}{r:List (Nat×qa)}:gh.kF Eo i v (I r)=I ((i,v)::r):=rfl
@[go_sem] theorem jm7 {sz:Nat}:iF e sz []=I []:=rfl
@[go_sem] theorem jkc {sz i:Nat}{x:qf}{l:List (Nat×qf)}:iF e sz ((i,x)::l)=gh (zd e x) i sz (iF e sz l):=by
 simp only[iF,gh,gh.kF]
 cases zd e x with
 |none=>rfl
 |some v=>simp only[];cases (En v.flat.length sz&&v.flat.all ze)<;>cases iF e sz l<;>rfl
@[go_sem] theorem j63 {xs:List qa}:lb xs []=I xs:=rfl
def Ux (b:Bool)(xs:List qa)(i:Nat)(v:qa)(l:List (Nat×qa)):Option (List qa):=match b with
 |true=>lb (xs.set i v) l
 |false=>Eh
@[go_sem] theorem jvl {xs:List qa}{i:Nat}{v:qa}{l:List (Nat×qa)}:Ux Eo xs i v l=lb (xs.set i v) l:=rfl
@[go_sem] theorem j3e {xs:List qa}{i:Nat}{v:qa}{l:List (Nat×qa)}:lb xs ((i,v)::l)=Ux (decide (i<xs.length)) xs i v l:=by
 simp only[lb,Ux,uJ]
 cases decide (i<xs.length)<;>rfl
def gi (sz:Nat)(h:j8)(xs:List qa)(ps:Option (List (Nat×qa))):Option qq:=match ps with
 |some ps=>kG sz h (lb xs ps)
 |none=>Eh
where kG (sz:Nat) (h:j8) (r:Option (List qa)):Option qq:=match r with
 |some xs=>I ⟨.list El sz xs,Eo,Eh,h⟩
 |none=>Eh
@[go_sem] theorem jvc {sz:Nat}{xs:List qa}{ps:List (Nat×qa)}:gi sz h xs (I ps)=gi.kG sz h (lb xs ps):=rfl
@[go_sem] theorem ju3 {sz:Nat}{xs:List qa}:gi.kG sz h (I xs)=I ⟨.list El sz xs,Eo,Eh,h⟩:=rfl
@[go_sem] theorem jnq {sz len:Nat}{zero:List qa}{ps:List (Nat×qf)}:za p xc h0 al e h (.buildSlice sz len zero ps)=gi sz h (List.replicate len (bif En sz 1 then zero.headD .undef else .agg zero)) (iF e sz ps):=by
 simp only[za,zi,gi,gi.kG]
 cases iF e sz ps with
 |none=>rfl
 |some ps=>simp only[];cases lb (List.replicate len (bif En sz 1 then zero.headD .undef else .agg zero)) ps<;>rfl
def bB (sz bytes:Nat)(h:j8)(own:Option Nat)(x y:Option qa):Option qq:=match x,y with
 |some (.list n cK xs),I vy=>bT (n||own.isSome) (gW sz bytes h own n cK xs (kr sz vy))
 |_,_=>Eh
where gW (sz bytes:Nat) (h:j8) (own:Option Nat) (n:Bool) (cK:Nat) (xs:List qa) (ys:Option (List qa)):Option qq:=match ys with
 |some ys=>bT ((En sz cK||(xs.isEmpty&&n))&&Ev (xs.length+ys.length) 1073741824&&Ev bytes 4096&&E5 0 sz) (I ⟨pF n sz xs ys,Eo,own,h⟩)
 |none=>Eh
@[go_sem] theorem j72 {sz bytes:Nat}{own:Option Nat}{n:Bool}{cK:Nat}{xs:List qa}{vy:qa}:bB sz bytes h own (I (.list n cK xs)) (I vy)=bT (n||own.isSome) (bB.gW sz bytes h own n cK xs (kr sz vy)):=rfl
@[go_sem] theorem j6v {sz bytes:Nat}{own:Option Nat}{n:Bool}{cK:Nat}{xs ys:List qa}:bB.gW sz bytes h own n cK xs (I ys)=bT ((En sz cK||(xs.isEmpty&&n))&&Ev (xs.length+ys.length) 1073741824&&Ev bytes 4096&&E5 0 sz) (I ⟨pF n sz xs ys,Eo,own,h⟩):=rfl
@[go_sem] theorem zdo {sz bytes:Nat}{x y:qf}:za p xc h0 al e h (.append Eh sz bytes x y)=bB sz bytes h (km e x) (zd e x) (zd e y):=by
 simp only[za,zi,bB,bB.gW]
 cases zd e x with
 |none=>rfl
 |some vx=>
  cases vx with
  |list n cK xs=>
   cases zd e y with
   |none=>rfl
   |some vy=>
    simp only[bT]
    cases (n||(km e x).isSome)with
    |false=>rfl
    |true=>
     simp only[cT]
     cases kr sz vy with
     |none=>rfl
     |some ys=>simp only[];cases ((En sz cK||(xs.isEmpty&&n))&&Ev (xs.length+ys.length) 1073741824&&Ev bytes 4096&&E5 0 sz)<;>rfl
  |_=>cases zd e y<;>rfl
@[go_sem] theorem Uy {z:Nat}{f:α→qa}{l:Option (List α)}:kr z (sl z f l)=I ((l.getD []).map f):=by
 cases l<;>simp[kr,sl]
@[go_sem] theorem zhf {z:Nat}{b:Bool}{xs:List qa}:kr z (.list b z xs)=I xs:=by simp[kr]
@[go_sem] theorem zin {z z':Nat}{b:Bool}:kr z (.list b z' [])=I []:=by simp[kr]
@[go_sem] theorem ju9 {z:Nat}{xs ys:List qa}:pF El z xs ys=.list El z (xs++ys):=rfl
@[go_sem] theorem jy9 {z:Nat}{b:Bool}{xs:List qa}{y:qa}{ys:List qa}:pF b z xs (y::ys)=.list El z (xs++y::ys):=by cases b<;>rfl
attribute [go_sem] Option.isSome_some Option.isSome_none Bool.or_true Bool.true_or List.isEmpty_nil List.isEmpty_cons Bool.and_false Bool.false_and
def Uz (h:j8)(i:Nat)(x:Option qa):Option qq:=match x with
 |some (.az vs)=>fY h vs[i]?
 |_=>Eh
@[go_sem] theorem jtw {i:Nat}{vs:List qa}:Uz h i (I (.az vs))=fY h vs[i]?:=rfl
@[go_sem] theorem j60 {i:Nat}{x:qf}:za p xc h0 al e h (.extract x i)=Uz h i (zd e x):=by
 simp only[za,zi,Uz]
 cases zd e x with
 |none=>rfl
 |some v=>cases v<;>rfl
def UA (op:UnOp)(h:j8)(x:Option qa):Option qq:=match x with
 |some v=>fY h (wV op v)
 |none=>Eh
@[go_sem] theorem zb1 {op:UnOp}{v:qa}:UA op h (I v)=fY h (wV op v):=rfl
@[go_sem] theorem zj8 {op:UnOp}{x:qf}:za p xc h0 al e h (.un op x)=UA op h (zd e x):=by
 simp only[za,zi,UA]
 cases zd e x<;>rfl
@[go_sem] theorem zi7 {b:Bool}:wV .not (.bool b)=I (.bool (!b)):=rfl
@[go_sem] theorem zjg {k:IntKind}{n:Int}:wV .neg (.int k n)=I (.int k (j9 k (0-n))):=rfl
def UB (neq:Bool)(h:j8)(x y:Option qa):Option qq:=match x,y with
 |some (.bool a),I (.bool b)=>val h (.bool (bif neq then !(a == b)else a == b))
 |_,_=>Eh
@[go_sem] theorem j8a {neq a b:Bool}:UB neq h (I (.bool a)) (I (.bool b))=I ⟨.bool (bif neq then !(a == b)else a == b),El,Eh,h⟩:=rfl
@[go_sem] theorem zj3 {neq:Bool}{x y:qf}:za p xc h0 al e h (.beq neq x y)=UB neq h (zd e x) (zd e y):=by
 simp only[za,zi,UB]
 cases zd e x with
 |none=>rfl
 |some v=>cases v<;>cases zd e y<;>rfl
def UC (f:Fn)(h:j8)(a b:Option (List qa)):Option qq:=match a,b with
 |some a,I b=>val h (.fn f a b)
 |_,_=>Eh
@[go_sem] theorem jrn {f:Fn}{a b:List qa}:UC f h (I a) (I b)=I ⟨.fn f a b,El,Eh,h⟩:=rfl
@[go_sem] theorem zd9 {f:Fn}{a b:List qf}:za p xc h0 al e h (.fX f a b)=UC f h (fE e a) (fE e b):=by
 simp only[za,zi,UC]
 cases fE e a<;>cases fE e b<;>rfl
def GJ (f:qa→qa→Option qa)(h:j8)(l:Option (List qa)):Option qq:=match l with
 |some (v::vs)=>fY h (ni f v vs)
 |_=>Eh
@[go_sem] theorem zf5 {f:qa→qa→Option qa}{v:qa}{vs:List qa}:GJ f h (I (v::vs))=fY h (ni f v vs):=rfl
@[go_sem] theorem zkb {l:List qf}:za p xc h0 al e h (.mx l)=GJ max2 h (fE e l):=by
 simp only[za,zi,GJ]
 cases fE e l with
 |none=>rfl
 |some vs=>cases vs<;>rfl
@[go_sem] theorem zj9 {l:List qf}:za p xc h0 al e h (.mn l)=GJ min2 h (fE e l):=by
 simp only[za,zi,GJ]
 cases fE e l with
 |none=>rfl
 |some vs=>cases vs<;>rfl
def UD (f:qa→qa→Option qa)(x:Option qa)(l:List qa):Option qa:=match x with
 |some z=>ni f z l
 |none=>Eh
@[go_sem] theorem jww {f:qa→qa→Option qa}{x:qa}{l:List qa}:UD f (I x) l=ni f x l:=rfl
@[go_sem] theorem j57 {f:qa→qa→Option qa}{x:qa}:ni f x []=I x:=rfl
@[go_sem] theorem jwl {f:qa→qa→Option qa}{x y:qa}{l:List qa}:ni f x (y::l)=UD f (f x y) l:=by
 simp only[ni,UD];rfl
@[go_sem] theorem zhy {k:IntKind}{x y:Int}:max2 (.int k x) (.int k y)=I (.int k (max x y)):=by
 simp only[max2,decide_true,cT]
 congr 2
 by_cases h:y > x
 ·rw[if_pos h];omega
 ·rw[if_neg h];omega
@[go_sem] theorem zhx {k:IntKind}{x y:Int}:min2 (.int k x) (.int k y)=I (.int k (min x y)):=by
 simp only[min2,decide_true,cT]
 congr 2
 by_cases h:y<x
 ·rw[if_pos h];omega
 ·rw[if_neg h];omega
def UE (k:Nat)(neq:Bool)(h:j8)(x:Option qa):Option qq:=match k,x with
  |0,I (.list n _ _)=>val h (.bool (bif neq then !n else n))
  |0,I (.ms ..)=>val h (.bool neq)
  |1,I .bN=>val h (.bool (!neq))
  |1,I (.ptr ..)=>val h (.bool neq)
  |1,I (.ah ..)=>val h (.bool neq)
  |2,I .bM=>val h (.bool (!neq))
  |2,I (.map ..)=>val h (.bool neq)
  |3,I .bX=>val h (.bool (!neq))
  |3,I (.fn ..)=>val h (.bool neq)
  |_,_=>Eh
@[go_sem] theorem zij {k:Nat}{neq:Bool}{x:qf}:za p xc h0 al e h (.eU k neq x)=UE k neq h (zd e x):=rfl
@[go_sem] theorem jxv {neq n:Bool}{z:Nat}{xs:List qa}:UE 0 neq h (I (.list n z xs))=I ⟨.bool (bif neq then !n else n),El,Eh,h⟩:=rfl
@[go_sem] theorem j7e {n:Nat}{k:IntKind}{i:Int}:below n (.int k i)=Eo:=rfl
@[go_sem] theorem j0u {n:Nat}{b:Bool}:below n (.bool b)=Eo:=rfl
@[go_sem] theorem j8j {n:Nat}{s:List UInt8}:below n (.str s)=Eo:=rfl
@[go_sem] theorem jzv {n:Nat}{b:Bool}{z:Nat}{xs:List qa}:below n (.list b z xs)=zw n xs:=by simp only[below]
@[go_sem] theorem j61 {n:Nat}{xs:List qa}:below n (.agg xs)=zw n xs:=by simp only[below]
@[go_sem] theorem j68 {n:Nat}{xs:List qa}:below n (.az xs)=zw n xs:=by simp only[below]
@[go_sem] theorem j8h {n b o:Nat}:below n (.ptr b o)=decide (b<n):=by simp only[below,uJ]
@[go_sem] theorem j7w {n b:Nat}:below n (.map b)=decide (b<n):=by simp only[below,uJ]
@[go_sem] theorem zbp {n k:Nat}{a b:List qa}:below n (.fn (.func k) a b)=(zw n a&&zw n b):=by simp only[below]
@[go_sem] theorem j1u {n:Nat}:zw n []=Eo:=by simp only[zw]
@[go_sem] theorem q4t {n:Nat}{x:qa}{xs:List qa}:zw n (x::xs)=(below n x&&zw n xs):=by simp only[zw]
@[go_sem] theorem jx9 {n:Nat}{i:Int}:below n (kn i)=Eo:=rfl
@[go_sem] theorem jyj {n z:Nat}{l:Option (List Int)}:below n (sl z kn l)=Eo:=uI fun _=>rfl
theorem qwu {n:Nat}{f:α→qa}(hf:∀x,below n (f x)=Eo):∀l:List α,zw n (l.map f)=Eo
 | []=>rfl
 |x::l=>by rw[List.map_cons,q4t,hf,qwu hf l];rfl
@[go_sem] theorem ju5 {n:Nat}{l:List Int}:zw n (l.map kn)=Eo:=qwu (fun _=>rfl) l
@[go_sem] theorem zit {k:IntKind}{i:Int}:iG h (.int k i)=I (.int k i):=rfl
@[go_sem] theorem zeu {b:Bool}:iG h (.bool b)=I (.bool b):=rfl
@[go_sem] theorem zh5 {s:List UInt8}:iG h (.str s)=I (.str s):=rfl
@[go_sem] theorem zgn {b:Bool}{z:Nat}{xs:List qa}:iG h (.list b z xs)=I (.list b z xs):=rfl
@[go_sem] theorem jn8 {z:Nat}{f:α→qa}{l:Option (List α)}:iG h (sl z f l)=I (sl z f l):=by cases l<;>rfl
@[go_sem] theorem zgx:lf h []=I []:=rfl
@[go_sem] theorem j8d {v:qa}{vs:List qa}:lf h (v::vs)=ph (iG h v) (lf h vs):=by
 simp only[lf,ph]
 cases iG h v with
 |none=>rfl
 |some x=>cases lf h vs<;>rfl
def Nj (l:Option (List qa)):Option qa:=match l with
 |some xs=>I (.agg xs)
 |none=>Eh
@[go_sem] theorem j7y {xs:List qa}:Nj (I xs)=I (.agg xs):=rfl
@[go_sem] theorem UF {cs:List qa}:aA h (.agg cs)=Nj (lf h cs):=by
 simp only[aA,Nj]
 cases lf h cs<;>rfl
@[go_sem] theorem j99 {k:IntKind}{i:Int}:aA h (.int k i)=I (.int k i):=rfl
@[go_sem] theorem j6a {b:Bool}:aA h (.bool b)=I (.bool b):=rfl
@[go_sem] theorem zep {s:List UInt8}:aA h (.str s)=I (.str s):=rfl
@[go_sem] theorem j7d {b:Bool}{z:Nat}{xs:List qa}:aA h (.list b z xs)=I (.list b z xs):=rfl
@[go_sem] theorem zh9 {z:Nat}{f:α→qa}{l:Option (List α)}:aA h (sl z f l)=I (sl z f l):=by cases l<;>rfl
def UG (l:Option (List qa)):Option qa:=match l with
 |some xs=>I (.az xs)
 |none=>Eh
@[go_sem] theorem j7u {xs:List qa}:UG (I xs)=I (.az xs):=rfl
@[go_sem] theorem zej {cs:List qa}:aA h (.az cs)=UG (aA.bg h cs):=by
 simp only[aA,UG]
 cases aA.bg h cs<;>rfl
@[go_sem] theorem zcd:aA.bg h []=I []:=rfl
@[go_sem] theorem zcu {cs vs:List qa}:aA.bg h (.agg cs::vs)=ph (Nj (lf h cs)) (aA.bg h vs):=by
 rw[aA.bg]
 cases lf h cs with
 |none=>rfl
 |some x=>cases aA.bg h vs<;>rfl
theorem GK {v:qa}{vs:List qa}(hv:v.isAgg=El):aA.bg h (v::vs)=ph (iG h v) (aA.bg h vs):=by
 have:∀cs,v≠.agg cs:=fun cs hc=>by rw[hc]at hv;cases hv
 rw[aA.bg]
 ·cases iG h v with
  |none=>rfl
  |some x=>cases aA.bg h vs<;>rfl
 ·exact this
@[go_sem] theorem j9n {k:IntKind}{i:Int}{vs:List qa}:aA.bg h (.int k i::vs)=ph (I (.int k i)) (aA.bg h vs):=GK rfl
@[go_sem] theorem j7o {b:Bool}{vs:List qa}:aA.bg h (.bool b::vs)=ph (I (.bool b)) (aA.bg h vs):=GK rfl
@[go_sem] theorem zaj {s:List UInt8}{vs:List qa}:aA.bg h (.str s::vs)=ph (I (.str s)) (aA.bg h vs):=GK rfl
@[go_sem] theorem j6s {b:Bool}{z:Nat}{xs vs:List qa}:aA.bg h (.list b z xs::vs)=ph (I (.list b z xs)) (aA.bg h vs):=GK rfl
@[go_sem] theorem zig {z:Nat}{f:α→qa}{l:Option (List α)}{vs:List qa}:aA.bg h (sl z f l::vs)=ph (I (sl z f l)) (aA.bg h vs):=by
 rw[GK (by cases l<;>rfl),jn8]
attribute [go_sem] List.contains_cons List.contains_nil
@[go_sem] theorem zh8 {a b:Nat}:(a == b)=decide (a=b):=by
 by_cases pI:a=b<;>simp[pI]
def GL (agg:Bool)(c:Option (qa×Bool))(vs:Option (List qa)):Option (qa×Bool):=match vs,agg with
 |some vs,Eo=>I (.agg vs,El)
 |some _,El=>c
 |none,_=>Eh
@[go_sem] theorem j6q {c:Option (qa×Bool)}{vs:List qa}:GL Eo c (I vs)=I (.agg vs,El):=rfl
@[go_sem] theorem j7c {c:Option (qa×Bool)}{vs:List qa}:GL El c (I vs)=c:=rfl
def Nk (agg:Bool)(o n:Nat)(cs:Option (List (qa×Bool))):Option (qa×Bool):=match cs with
 |some cs=>GL agg cs[o]? (kc cs o n)
 |none=>Eh
@[go_sem] theorem j3g {agg:Bool}{o n:Nat}{cs:List (qa×Bool)}:Nk agg o n (I cs)=GL agg cs[o]? (kc cs o n):=rfl
def UH (agg:Bool)(n:Nat)(h:j8)(x:Option (qa×Bool)):Option (qa×Bool):=match x with
 |some (.ptr b o,_)=>Nk agg o n (yl h b)
 |_=>Eh
@[go_sem] theorem j8f {agg:Bool}{n b o:Nat}{w:Bool}:UH agg n h (I (.ptr b o,w))=Nk agg o n (yl h b):=rfl
@[go_sem] theorem jnc {t n:Nat}{agg:Bool}:ui ⟨e,h⟩ (.cell t agg n)=UH agg n h (ye t e):=by
 simp only[ui,UH]
 cases ye t e with
 |none=>rfl
 |some x=>
  obtain⟨v,w⟩:=x
  cases v with
  |ptr b o=>
   simp only[Nk]
   cases yl h b with
   |none=>rfl
   |some cs=>
    simp only[GL]
    cases kc cs o n with
    |none=>rfl
    |some vs=>cases agg with
     |true=>rfl
     |false=>simp only[cond_false];cases cs[o]?<;>rfl
  |_=>rfl
theorem k9 {k:Nat}{args:List qa}{v v':qa}{o:Bool}(hp:p.cq k=Eh)(hc:zg p xc k args []=I (v,o,h))(hz:aA h v=I v')(hv:below 0 v'=Eo):jz p xc k args=I (v',o&&v.cu):=by
 unfold jz
 rw[hp]
 simp only[hc,hz,lQ,hv,cT]
end
end Go.Abs
