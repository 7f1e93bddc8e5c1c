/- Equations of the executor, second part. -/
import Derived.Test.YtfopaakmgogpiaaGreatDoorAbsI
set_option linter.unusedVariables false
set_option linter.unusedSimpArgs false
open Option renaming some→I,none→Ef
open Bool renaming false→En,true→E1
open Nat renaming beq→E0,ble→E3,blt→E4,eq_of_beq_eq_true→E6
namespace Go.Abs
section
variable {p:qt}{xc:XC}{h0:Nat}{al:Option (List Nat)}{e:Env}{h:j8}{α:Type}
attribute [go_sem] List.getElem?_cons_zero List.getElem?_cons_succ List.getElem?_nil List.set_cons_zero List.set_cons_succ List.set_nil List.cons_append List.replicate_zero List.replicate_succ List.map_cons List.map_nil List.all_cons List.all_nil List.drop_zero List.drop_succ_cons List.take_zero List.take_succ_cons List.drop_nil List.take_nil Bool.and_true Bool.true_and Bool.or_false Bool.false_or Bool.and_self List.headD_cons List.foldl_cons List.foldl_nil List.flatMap_cons List.flatMap_nil
@[go_sem] theorem zjs {k:IntKind}{n:Int}:ze (.int k n)=E1:=rfl
@[go_sem] theorem zir {b:Bool}:ze (.bool b)=E1:=rfl
@[go_sem] theorem zjp {s:List UInt8}:ze (.str s)=E1:=rfl
@[go_sem] theorem ziy {b:Bool}{z:Nat}{xs:List qa}:ze (.list b z xs)=E1:=rfl
@[go_sem] theorem zka {b o n:Nat}:ze (.ms b o n)=E1:=rfl
@[go_sem] theorem zjt {b o:Nat}:ze (.ptr b o)=E1:=rfl
@[go_sem] theorem zjj {b:Nat}:ze (.map b)=E1:=rfl
@[go_sem] theorem j7n:ze .bO=E1:=rfl
@[go_sem] theorem j65:ze .bN=E1:=rfl
@[go_sem] theorem zil:ze .bY=E1:=rfl
@[go_sem] theorem zkl {f:Fn}{a b:List qa}:ze (.fn f a b)=E1:=rfl
@[go_sem] theorem zkq {z:Nat}{f:α→qa}{l:Option (List α)}:ze (sl z f l)=E1:=by cases l<;>rfl
@[go_sem] theorem zee {cs:List qa}:qa.flat (.agg cs)=cs:=rfl
@[go_sem] theorem zei {k:IntKind}{n:Int}:qa.flat (.int k n)=[.int k n]:=rfl
@[go_sem] theorem j8x {b:Bool}:qa.flat (.bool b)=[.bool b]:=rfl
@[go_sem] theorem zdb {s:List UInt8}:qa.flat (.str s)=[.str s]:=rfl
@[go_sem] theorem j8y {b:Bool}{z:Nat}{xs:List qa}:qa.flat (.list b z xs)=[.list b z xs]:=rfl
@[go_sem] theorem zi0 {z:Nat}{f:α→qa}{l:Option (List α)}:qa.flat (sl z f l)=[sl z f l]:=by cases l<;>rfl
@[go_sem] theorem zh6 {b o:Nat}:qa.flat (.ptr b o)=[.ptr b o]:=rfl
@[go_sem] theorem zao {b:Nat}:qa.flat (.map b)=[.map b]:=rfl
@[go_sem] theorem zi6 {f:Fn}{a b:List qa}:qa.flat (.fn f a b)=[.fn f a b]:=rfl
@[go_sem] theorem zi9 {b o n:Nat}:qa.flat (.ms b o n)=[.ms b o n]:=rfl
@[go_sem] theorem M0 {a b:Nat}:E0 a b=decide (a=b):=by
 cases h:E0 a b with
 |true=>have:=E6 h;simp[this]
 |false=>
  have:a≠b:=fun hh=>by subst hh;simp at h
  simp[this]
@[go_sem] theorem mP {a b:Nat}:E3 a b=decide (a≤b):=by
 cases h:E3 a b with
 |true=>have:=Nat.le_of_ble_eq_true h;simp[this]
 |false=>
  have:¬a≤b:=fun hh=>by rw[Nat.ble_eq_true_of_le hh]at h;cases h
  simp[this]
@[go_sem] theorem uC {a b:Nat}:E4 a b=decide (a<b):=by
 show E3 (a+1) b=_
 rw[mP];rfl
@[go_sem] theorem j7t {b:Nat}:yv h0 Ef b=E1:=rfl
@[go_sem] theorem zji:n5 []=En:=rfl
@[go_sem] theorem zhv {k:Nat}{l:List Nat}:n5 (k::l)=decide (1000≤k):=by simp only[n5,mP]
@[go_sem] theorem zbs {k b:Nat}{l:List Nat}:yW h0 (k::l) b=cond (decide (k<2000)) (decide (b=k-1000)&&decide (b<h0)) (cond (decide (k<4000)) (decide (b=h0+(k-2000))) (decide (b<h0))):=by
 have e:∀x y:Nat,E0 x y=decide (x=y):=fun x y=>by
  cases h:E0 x y with
  |true=>rw[E6 h];simp
  |false=>
   have:x≠y:=fun e=>by rw[e,Nat.beq_refl]at h;cases h
   simp[this]
 simp only[yW,uC,e]
@[go_sem] theorem j3m {b:Nat}{l:List Nat}:yv h0 (I l) b=cond (n5 l) (yW h0 l b) (decide (b<h0)||l.contains (b-h0)):=by simp only[yv,uC]
def gS (r:Option j8)(v:qa):Option qq:=match r with
 |some h'=>I ⟨v,En,Ef,h'⟩
 |none=>Ef
@[go_sem] theorem j8k {v:qa}:gS (I h) v=I ⟨v,En,Ef,h⟩:=rfl
@[go_sem] theorem j8s {h0 r:Nat}{es:List (qa×qa)}:MZ h0 r h E1 (I es)=gS (aJ h0 h r (.map es)) (.map (h0+r)):=rfl
def Uj (n:Nat)(h:j8)(b:Option qn)(x:qn):Option j8:=match b with
 |some .hole=>I (h.set n x)
 |_=>Ef
@[go_sem] theorem j7y {n:Nat}{x:qn}:Uj n h (I .hole) x=I (h.set n x):=rfl
@[go_sem] theorem j87 {r:Nat}{x:qn}:aJ h0 h r x=Uj (h0+r) h h[h0+r]? x:=by
 unfold aJ Uj;rfl
def bT (b:Bool)(r:Option qq):Option qq:=match b with
 |true=>r
 |false=>Ef
@[go_sem] theorem zhn {r:Option qq}:bT E1 r=r:=rfl
@[go_sem] theorem ziw {r:Nat}{z:List qa}:j9 p xc h0 al e h (.alloc r z)=bT (z.all ze) (gS (aJ h0 h r (.cells (cellsOf z))) (.ptr (h0+r) 0)):=by
 simp only[j9,zj,bT]
 cases z.all ze with
 |false=>rfl
 |true=>simp only[cT,gS];cases aJ h0 h r (.cells (cellsOf z))<;>rfl
def Uk (n:Nat)(h:j8)(x:Option qa):Option qq:=match x with
 |some v=>bT (E0 v.flat.length n&&v.flat.all ze) (I ⟨.ah v,En,Ef,h⟩)
 |none=>Ef
@[go_sem] theorem jxc {n:Nat}{v:qa}:Uk n h (I v)=bT (E0 v.flat.length n&&v.flat.all ze) (I ⟨.ah v,En,Ef,h⟩):=rfl
@[go_sem] theorem zjy {n:Nat}{x:qh}:j9 p xc h0 al e h (.nY n x)=Uk n h (zc e x):=by
 simp only[j9,zh,Uk]
 cases zc e x with
 |none=>rfl
 |some v=>
  simp only[bT]
  cases (E0 v.flat.length n&&v.flat.all ze)<;>rfl
def Ul (h0 r n:Nat)(h:j8)(x:Option qa):Option qq:=match x with
 |some v=>bT (E0 v.flat.length n&&v.flat.all ze) (gS (aJ h0 h r (.cells (cellsOf v.flat))) (.ptr (h0+r) 0))
 |none=>Ef
@[go_sem] theorem j8v {r n:Nat}{v:qa}:Ul h0 r n h (I v)=bT (E0 v.flat.length n&&v.flat.all ze) (gS (aJ h0 h r (.cells (cellsOf v.flat))) (.ptr (h0+r) 0)):=rfl
@[go_sem] theorem zkk {r n:Nat}{x:qh}:j9 p xc h0 al e h (.box r n x)=Ul h0 r n h (zc e x):=by
 simp only[j9,zj,Ul]
 cases zc e x with
 |none=>rfl
 |some v=>
  simp only[bT,gS]
  cases (E0 v.flat.length n&&v.flat.all ze)with
  |false=>rfl
  |true=>simp only[cT];cases aJ h0 h r (.cells (cellsOf v.flat))<;>rfl
@[go_sem] theorem ziz {r:Nat}:j9 p xc h0 al e h (.dO r)=gS (aJ h0 h r (.map [])) (.map (h0+r)):=by
 simp only[j9,zj,gS]
 cases aJ h0 h r (.map [])<;>rfl
@[go_sem] theorem jvn:cellsOf []=[]:=rfl
@[go_sem] theorem jrp {v:qa}{vs:List qa}:cellsOf (v::vs)=(v,En)::cellsOf vs:=rfl
def uD (agg:Bool)(h:j8)(r:Option qa):Option qq:=match r with
 |some v=>bif Bool.xor agg v.isAgg then Ef else val h (.ah v)
 |none=>Ef
def DN (agg:Bool)(off n:Nat)(h:j8)(x:Option qa):Option qq:=match x with
 |some (.ptr b o)=>val h (.ptr b (o+off))
 |some (.ah (.agg cs))=>uD agg h (part agg cs off n)
 |some (.cJ b bz o)=>val h (.cJ b bz (o+off))
 |_=>Ef
@[go_sem] theorem jn0 {agg:Bool}{off n b v o:Nat}:DN agg off n h (I (.cJ b v o))=I ⟨.cJ b v (o+off),En,Ef,h⟩:=rfl
@[go_sem] theorem jn1 {agg:Bool}{off n b o:Nat}:DN agg off n h (I (.ptr b o))=I ⟨.ptr b (o+off),En,Ef,h⟩:=rfl
@[go_sem] theorem jnc {agg:Bool}{off n:Nat}{cs:List qa}:DN agg off n h (I (.ah (.agg cs)))=uD agg h (part agg cs off n):=rfl
@[go_sem] theorem jvy {agg:Bool}{off n:Nat}{x:qh}:j9 p xc h0 al e h (.fieldAddr agg off n x)=DN agg off n h (zc e x):=by
 simp only[j9,zh,DN]
 cases zc e x with
 |none=>rfl
 |some v=>cases v with
  |ah v=>cases v<;>rfl
  |_=>rfl
def zj2 (v:qa):Prop:=v.isAgg=En
theorem j78 {v:qa}(hv:v.isAgg=En):uD En h (I v)=I ⟨.ah v,En,Ef,h⟩:=by simp[uD,hv,val]
@[go_sem] theorem j8d {k:IntKind}{n:Int}:uD En h (I (.int k n))=I ⟨.ah (.int k n),En,Ef,h⟩:=rfl
@[go_sem] theorem j7h {s:List UInt8}:uD En h (I (.str s))=I ⟨.ah (.str s),En,Ef,h⟩:=rfl
@[go_sem] theorem j2b {b:Bool}:uD En h (I (.bool b))=I ⟨.ah (.bool b),En,Ef,h⟩:=rfl
@[go_sem] theorem zhc {z:Nat}{f:α→qa}{l:Option (List α)}:uD En h (I (sl z f l))=I ⟨.ah (sl z f l),En,Ef,h⟩:=by cases l<;>rfl
@[go_sem] theorem j7v {cs:List qa}:uD E1 h (I (.agg cs))=I ⟨.ah (.agg cs),En,Ef,h⟩:=rfl
@[go_sem] theorem zex {cs:List qa}{off n:Nat}:part En cs off n=cs[off]?:=rfl
def Um (b:Bool)(cs:List qa)(off n:Nat):Option qa:=match b with
 |true=>I (.agg ((cs.drop off).take n))
 |false=>Ef
@[go_sem] theorem jzx {cs:List qa}{off n:Nat}:Um E1 cs off n=I (.agg ((cs.drop off).take n)):=rfl
@[go_sem] theorem zhz {cs:List qa}{off n:Nat}:part E1 cs off n=Um (decide (off+n≤cs.length)) cs off n:=by
 simp only[part,Um,cT,mP]
 cases decide (off+n≤cs.length)<;>rfl
@[go_sem] theorem zek {z:Nat}{f:α→qa}{l:Option (List α)}:eH h0 al En 1 h (I (.ah (sl z f l)))=I ⟨sl z f l,En,Ef,h⟩:=by cases l<;>rfl
def Un (h:j8)(cs:List qa)(b:Bool):Option qq:=match b with
 |true=>I ⟨.agg cs,En,Ef,h⟩
 |false=>Ef
@[go_sem] theorem j82 {cs:List qa}:Un h cs E1=I ⟨.agg cs,En,Ef,h⟩:=rfl
@[go_sem] theorem j1j {n:Nat}{cs:List qa}:eH h0 al E1 n h (I (.ah (.agg cs)))=Un h cs (decide (cs.length=n)):=by
 unfold Un
 by_cases hn:cs.length=n
 ·rw[jcn hn];simp[hn]
 ·simp[eH,qa.isAgg,qa.flat,hn,M0]
def Gs (agg:Bool)(h:j8)(vs:Option (List qa)):Option qq:=match vs with
 |some vs=>bif agg then val h (.agg vs)else(match vs with
  | [v]=>val h v
  |_=>Ef)
 |none=>Ef
@[go_sem] theorem zac {vs:List qa}:Gs E1 h (I vs)=I ⟨.agg vs,En,Ef,h⟩:=rfl
@[go_sem] theorem zak {v:qa}:Gs En h (I [v])=I ⟨v,En,Ef,h⟩:=rfl
def Uo (b:Option qn):Option (List (qa×Bool)):=match b with
 |some (.cells cs)=>I cs
 |_=>Ef
@[go_sem] theorem jv5 {cs:List (qa×Bool)}:Uo (I (.cells cs))=I cs:=rfl
@[go_sem] theorem q5s {b:Nat}:ym h b=Uo h[b]?:=by unfold ym Uo;rfl
def Up (b:Bool)(cs:List (qa×Bool))(off n:Nat):Option (List qa):=match b with
 |true=>I (((cs.drop off).take n).map (·.1))
 |false=>Ef
@[go_sem] theorem zcs {cs:List (qa×Bool)}{off n:Nat}:Up E1 cs off n=I (((cs.drop off).take n).map (·.1)):=rfl
@[go_sem] theorem jpk {cs:List (qa×Bool)}{off n:Nat}:y8 cs off n=Up (decide (off+n≤cs.length)) cs off n:=by
 simp only[y8,Up,mP]
 cases decide (off+n≤cs.length)<;>rfl
def Uq (agg:Bool)(o n:Nat)(h:j8)(cs:Option (List (qa×Bool))):Option qq:=match cs with
 |some cs=>Gs agg h (y8 cs o n)
 |none=>Ef
@[go_sem] theorem j66 {agg:Bool}{o n:Nat}{cs:List (qa×Bool)}:Uq agg o n h (I cs)=Gs agg h (y8 cs o n):=rfl
@[go_sem] theorem j7u {agg:Bool}{n b o:Nat}:eH h0 al agg n h (I (.ptr b o))=bT (yv h0 al b) (Uq agg o n h (ym h b)):=by
 simp only[eH,bT,Uq,Gs]
 cases yv h0 al b with
 |false=>rfl
 |true=>
  simp only[cT]
  cases ym h b with
  |none=>rfl
  |some cs=>simp only[];cases y8 cs o n<;>rfl
def M1 (r:Option j8)(v:qa)(w:Bool):Option qq:=match r with
 |some h'=>I ⟨v,w,Ef,h'⟩
 |none=>Ef
@[go_sem] theorem j22 {v:qa}{w:Bool}:M1 (I h) v w=I ⟨v,w,Ef,h⟩:=rfl
def M2 (h:j8)(b o:Nat)(cs:List (qa×Bool))(x:Option (qa×Bool)):Option qq:=match x with
 |some (v,w)=>M1 (yl h b (.cells (cs.set o (v,En)))) v w
 |none=>Ef
@[go_sem] theorem j3r {b o:Nat}{cs:List (qa×Bool)}{v:qa}{w:Bool}:M2 h b o cs (I (v,w))=M1 (yl h b (.cells (cs.set o (v,En)))) v w:=rfl
def M3 (h:j8)(b o:Nat)(cs:Option (List (qa×Bool))):Option qq:=match cs with
 |some cs=>M2 h b o cs cs[o]?
 |none=>Ef
@[go_sem] theorem j4o {b o:Nat}{cs:List (qa×Bool)}:M3 h b o (I cs)=M2 h b o cs cs[o]?:=rfl
def Ur (h0:Nat)(al:Option (List Nat))(off:Option Nat)(h:j8)(x:Option qa):Option qq:=match x with
 |some (.ptr b o)=>bT (yv h0 al b&&tX off o) (M3 h b o (ym h b))
 |_=>Ef
@[go_sem] theorem jnp {off:Option Nat}{b o:Nat}:Ur h0 al off h (I (.ptr b o))=bT (yv h0 al b&&tX off o) (M3 h b o (ym h b)):=rfl
@[go_sem] theorem j1f {o:Nat}:tX Ef o=E1:=rfl
@[go_sem] theorem jz8 {a o:Nat}:tX (I a) o=decide (a=o):=by simp only[tX,M0]
@[go_sem] theorem j3u {off:Option Nat}{x:qh}:j9 p xc h0 al e h (.b8 off x)=Ur h0 al off h (zc e x):=by
 simp only[j9,zj,Ur]
 cases zc e x with
 |none=>rfl
 |some v=>cases v with
  |ptr b o=>
   simp only[bT,M3,M2,M1]
   cases (yv h0 al b&&tX off o)with
   |false=>rfl
   |true=>
    simp only[cT]
    cases ym h b with
    |none=>rfl
    |some cs=>
     simp only[]
     cases cs[o]? with
     |none=>rfl
     |some c=>
      obtain⟨v,w⟩:=c
      simp only[]
      cases yl h b (.cells (cs.set o (v,En)))<;>rfl
  |_=>rfl
def Us (b:Bool)(n:Nat)(x:qn)(h:j8):Option j8:=match b with
 |true=>I (h.set n x)
 |false=>Ef
@[go_sem] theorem j83 {n:Nat}{x:qn}:Us E1 n x h=I (h.set n x):=rfl
@[go_sem] theorem j8b {b:Nat}{x:qn}:yl h b x=Us (decide (b<h.length)) b x h:=by
 simp only[yl,Us,uC]
 cases decide (b<h.length)<;>rfl
def Ut (b:Bool)(cs:List (qa×Bool))(off:Nat)(vs:List qa):Option (List (qa×Bool)):=match b with
 |true=>I (cs.take off++vs.map (·,En)++cs.drop (off+vs.length))
 |false=>Ef
@[go_sem] theorem zho {cs:List (qa×Bool)}{off:Nat}{vs:List qa}:Ut E1 cs off vs=I (cs.take off++vs.map (·,En)++cs.drop (off+vs.length)):=rfl
@[go_sem] theorem jns {cs:List (qa×Bool)}{off:Nat}{vs:List qa}:yh cs off vs=Ut (decide (off+vs.length≤cs.length)&&vs.all ze) cs off vs:=by
 simp only[yh,Ut,mP]
 cases (decide (off+vs.length≤cs.length)&&vs.all ze)<;>rfl
def zkx (e:Env)(x:qh):Option Nat:=kg e x
def M4 (t:Nat)(x:Option (qa×Bool)):Option Nat:=match x with
 |some (_,E1)=>I t
 |_=>Ef
@[go_sem] theorem j9l {t:Nat}{v:qa}:M4 t (I (v,E1))=I t:=rfl
@[go_sem] theorem j3s {t:Nat}{v:qa}:M4 t (I (v,En))=Ef:=rfl
@[go_sem] theorem j8l {t:Nat}:kg e (.tmp t)=M4 t (yd t e):=by
 simp only[kg,M4];rfl
@[go_sem] theorem jvb {v:qa}:kg e (.const v)=Ef:=rfl
def M5 (h:j8)(b:Nat)(cs:Option (List (qa×Bool))):Option qq:=match cs with
 |some dV=>gS (yl h b (.cells dV)) .undef
 |none=>Ef
@[go_sem] theorem jpu {b:Nat}{cs:List (qa×Bool)}:M5 h b (I cs)=gS (yl h b (.cells cs)) .undef:=rfl
def M6 (t:Nat)(r:Option j8):Option qq:=match r with
 |some h'=>I ⟨.undef,En,I t,h'⟩
 |none=>Ef
@[go_sem] theorem j05 {t:Nat}:M6 t (I h)=I ⟨.undef,En,I t,h⟩:=rfl
def Gt (n:Nat)(h:j8)(b o:Nat)(v:qa)(own:Option Nat)(cs:Option (List (qa×Bool))):Option qq:=match cs,own with
 |some cs,I t=>bT (E0 n 1&&v.cu&&E4 o cs.length) (M6 t (yl h b (.cells (cs.set o (v,E1)))))
 |some cs,Ef=>bT (E0 v.flat.length n) (M5 h b (yh cs o v.flat))
 |none,_=>Ef
@[go_sem] theorem j5s {n b o t:Nat}{v:qa}{cs:List (qa×Bool)}:Gt n h b o v (I t) (I cs)=bT (E0 n 1&&v.cu&&E4 o cs.length) (M6 t (yl h b (.cells (cs.set o (v,E1))))):=rfl
@[go_sem] theorem jov {n b o:Nat}{v:qa}{cs:List (qa×Bool)}:Gt n h b o v Ef (I cs)=bT (E0 v.flat.length n) (M5 h b (yh cs o v.flat)):=rfl
def Uu (h0:Nat)(al:Option (List Nat))(n:Nat)(h:j8)(own:Option Nat)(a x:Option qa):Option qq:=match a,x with
 |some (.ptr b o),I v=>bT (yv h0 al b) (Gt n h b o v own (ym h b))
 |_,_=>Ef
@[go_sem] theorem j6z {n b o:Nat}{own:Option Nat}{v:qa}:Uu h0 al n h own (I (.ptr b o)) (I v)=bT (yv h0 al b) (Gt n h b o v own (ym h b)):=rfl
@[go_sem] theorem zio {n:Nat}{a x:qh}:j9 p xc h0 al e h (.store n a x)=Uu h0 al n h (kg e x) (zc e a) (zc e x):=by
 simp only[j9,zj,Uu]
 cases zc e a with
 |none=>rfl
 |some va=>
  cases va with
  |ptr b o=>
   cases zc e x with
   |none=>rfl
   |some v=>
    simp only[bT]
    cases yv h0 al b with
    |false=>rfl
    |true=>
     simp only[cT]
     cases ym h b with
     |none=>rfl
     |some cs=>
      simp only[Gt]
      cases kg e x with
      |none=>
       simp only[bT,M5,gS]
       cases E0 v.flat.length n with
       |false=>rfl
       |true=>
        simp only[cT]
        cases yh cs o v.flat with
        |none=>rfl
        |some dV=>simp only[];cases yl h b (.cells dV)<;>rfl
      |some t=>
       simp only[bT,M6]
       cases (E0 n 1&&v.cu&&E4 o cs.length)with
       |false=>rfl
       |true=>simp only[cT];cases yl h b (.cells (cs.set o (v,E1)))<;>rfl
  |_=>rfl
@[go_sem] theorem jvx {b:Bool}{z:Nat}{xs:List qa}:qa.cu (.list b z xs)=E1:=rfl
@[go_sem] theorem j7c {z:Nat}{f:α→qa}{l:Option (List α)}:qa.cu (sl z f l)=E1:=by cases l<;>rfl
def M7 (b:Bool)(off:Nat)(vs:List qa)(l:Option (List (Nat×List qa))):Option (List (Nat×List qa)):=match b,l with
 |true,I r=>I ((off,vs)::r)
 |_,_=>Ef
@[go_sem] theorem jv7 {off:Nat}{vs:List qa}{r:List (Nat×List qa)}:M7 E1 off vs (I r)=I ((off,vs)::r):=rfl
def Uv (x:Option qa)(off n:Nat)(l:Option (List (Nat×List qa))):Option (List (Nat×List qa)):=match x with
 |some v=>M7 (E0 v.flat.length n&&v.flat.all ze) off v.flat l
 |none=>Ef
@[go_sem] theorem jvq {v:qa}{off n:Nat}{l:Option (List (Nat×List qa))}:Uv (I v) off n l=M7 (E0 v.flat.length n&&v.flat.all ze) off v.flat l:=rfl
@[go_sem] theorem jnu:la e []=I []:=rfl
@[go_sem] theorem jlc {off n:Nat}{x:qh}{l:List (Nat×Nat×qh)}:la e ((off,n,x)::l)=Uv (zc e x) off n (la e l):=by
 simp only[la,Uv,M7]
 cases zc e x with
 |none=>rfl
 |some v=>simp only[];cases (E0 v.flat.length n&&v.flat.all ze)<;>cases la e l<;>rfl
def jK (h:j8)(zero:List qa)(ps:Option (List (Nat×List qa))):Option qq:=match ps with
 |some ps=>nL h (jB zero ps)
 |none=>Ef
where nL (h:j8) (r:Option (List qa)):Option qq:=match r with
 |some cs=>I ⟨.agg cs,En,Ef,h⟩
 |none=>Ef
@[go_sem] theorem j43 {zero:List qa}{ps:List (Nat×List qa)}:jK h zero (I ps)=jK.nL h (jB zero ps):=rfl
@[go_sem] theorem jz7 {cs:List qa}:jK.nL h (I cs)=I ⟨.agg cs,En,Ef,h⟩:=rfl
@[go_sem] theorem zim {zero:List qa}{ps:List (Nat×Nat×qh)}:j9 p xc h0 al e h (.build zero ps)=jK h zero (la e ps):=by
 simp only[j9,zh,jK,jK.nL]
 cases la e ps with
 |none=>rfl
 |some ps=>simp only[];cases jB zero ps<;>rfl
@[go_sem] theorem j7e {cs:List qa}:jB cs []=I cs:=rfl
def Uw (b:Bool)(cs:List qa)(off:Nat)(vs:List qa)(l:List (Nat×List qa)):Option (List qa):=match b with
 |true=>jB (cs.take off++vs++cs.drop (off+vs.length)) l
 |false=>Ef
@[go_sem] theorem j14 {cs:List qa}{off:Nat}{vs:List qa}{l:List (Nat×List qa)}:Uw E1 cs off vs l=jB (cs.take off++vs++cs.drop (off+vs.length)) l:=rfl
@[go_sem] theorem jx8 {cs:List qa}{off:Nat}{vs:List qa}{l:List (Nat×List qa)}:jB cs ((off,vs)::l)=Uw (decide (off+vs.length≤cs.length)) cs off vs l:=by
 simp only[jB,Uw,mP]
 cases decide (off+vs.length≤cs.length)<;>rfl
def gg (x:Option qa)(i sz:Nat)(l:Option (List (Nat×qa))):Option (List (Nat×qa)):=match x with
 |some v=>kC (E0 v.flat.length sz&&v.flat.all ze) i v l
 |none=>Ef
where kC (b:Bool) (i:Nat) (v:qa) (l:Option (List (Nat×qa))):Option (List (Nat×qa)):=match b,l with
 |true,I r=>I ((i,v)::r)
 |_,_=>Ef
@[go_sem] theorem jvz {v:qa}{i sz:Nat}{l:Option (List (Nat×qa))}:gg (I v) i sz l=gg.kC (E0 v.flat.length sz&&v.flat.all ze) i v l:=rfl
@[go_sem] theorem jvr {v:qa}{i:Nat}{r:List (Nat×qa)}:gg.kC E1 i v (I r)=I ((i,v)::r):=rfl
@[go_sem] theorem jn3 {sz:Nat}:iA e sz []=I []:=rfl
@[go_sem] theorem jl3 {sz i:Nat}{x:qh}{l:List (Nat×qh)}:iA e sz ((i,x)::l)=gg (zc e x) i sz (iA e sz l):=by
 simp only[iA,gg,gg.kC]
 cases zc e x with
 |none=>rfl
 |some v=>simp only[];cases (E0 v.flat.length sz&&v.flat.all ze)<;>cases iA e sz l<;>rfl
@[go_sem] theorem j8f {xs:List qa}:lb xs []=I xs:=rfl
def Ux (b:Bool)(xs:List qa)(i:Nat)(v:qa)(l:List (Nat×qa)):Option (List qa):=match b with
 |true=>lb (xs.set i v) l
 |false=>Ef
@[go_sem] theorem jvf {xs:List qa}{i:Nat}{v:qa}{l:List (Nat×qa)}:Ux E1 xs i v l=lb (xs.set i v) l:=rfl
@[go_sem] theorem jxh {xs:List qa}{i:Nat}{v:qa}{l:List (Nat×qa)}:lb xs ((i,v)::l)=Ux (decide (i<xs.length)) xs i v l:=by
 simp only[lb,Ux,uC]
 cases decide (i<xs.length)<;>rfl
def gh (sz:Nat)(h:j8)(xs:List qa)(ps:Option (List (Nat×qa))):Option qq:=match ps with
 |some ps=>kD sz h (lb xs ps)
 |none=>Ef
where kD (sz:Nat) (h:j8) (r:Option (List qa)):Option qq:=match r with
 |some xs=>I ⟨.list En sz xs,E1,Ef,h⟩
 |none=>Ef
@[go_sem] theorem jv3 {sz:Nat}{xs:List qa}{ps:List (Nat×qa)}:gh sz h xs (I ps)=gh.kD sz h (lb xs ps):=rfl
@[go_sem] theorem jvi {sz:Nat}{xs:List qa}:gh.kD sz h (I xs)=I ⟨.list En sz xs,E1,Ef,h⟩:=rfl
@[go_sem] theorem jr7 {sz len:Nat}{zero:List qa}{ps:List (Nat×qh)}:j9 p xc h0 al e h (.buildSlice sz len zero ps)=gh sz h (List.replicate len (bif E0 sz 1 then zero.headD .undef else .agg zero)) (iA e sz ps):=by
 simp only[j9,zh,gh,gh.kD]
 cases iA e sz ps with
 |none=>rfl
 |some ps=>simp only[];cases lb (List.replicate len (bif E0 sz 1 then zero.headD .undef else .agg zero)) ps<;>rfl
def bE (sz bytes:Nat)(h:j8)(own:Option Nat)(x y:Option qa):Option qq:=match x,y with
 |some (.list n cK xs),I vy=>bT (n||own.isSome) (gT sz bytes h own n cK xs (kj sz vy))
 |_,_=>Ef
where gT (sz bytes:Nat) (h:j8) (own:Option Nat) (n:Bool) (cK:Nat) (xs:List qa) (ys:Option (List qa)):Option qq:=match ys with
 |some ys=>bT ((E0 sz cK||(xs.isEmpty&&n))&&E3 (xs.length+ys.length) 1073741824&&E3 bytes 4096&&E4 0 sz) (I ⟨pF n sz xs ys,E1,own,h⟩)
 |none=>Ef
@[go_sem] theorem j8o {sz bytes:Nat}{own:Option Nat}{n:Bool}{cK:Nat}{xs:List qa}{vy:qa}:bE sz bytes h own (I (.list n cK xs)) (I vy)=bT (n||own.isSome) (bE.gT sz bytes h own n cK xs (kj sz vy)):=rfl
@[go_sem] theorem j89 {sz bytes:Nat}{own:Option Nat}{n:Bool}{cK:Nat}{xs ys:List qa}:bE.gT sz bytes h own n cK xs (I ys)=bT ((E0 sz cK||(xs.isEmpty&&n))&&E3 (xs.length+ys.length) 1073741824&&E3 bytes 4096&&E4 0 sz) (I ⟨pF n sz xs ys,E1,own,h⟩):=rfl
@[go_sem] theorem za4 {sz bytes:Nat}{x y:qh}:j9 p xc h0 al e h (.append Ef sz bytes x y)=bE sz bytes h (kg e x) (zc e x) (zc e y):=by
 simp only[j9,zh,bE,bE.gT]
 cases zc e x with
 |none=>rfl
 |some vx=>
  cases vx with
  |list n cK xs=>
   cases zc e y with
   |none=>rfl
   |some vy=>
    simp only[bT]
    cases (n||(kg e x).isSome)with
    |false=>rfl
    |true=>
     simp only[cT]
     cases kj sz vy with
     |none=>rfl
     |some ys=>simp only[];cases ((E0 sz cK||(xs.isEmpty&&n))&&E3 (xs.length+ys.length) 1073741824&&E3 bytes 4096&&E4 0 sz)<;>rfl
  |_=>cases zc e y<;>rfl
@[go_sem] theorem Uy {z:Nat}{f:α→qa}{l:Option (List α)}:kj z (sl z f l)=I ((l.getD []).map f):=by
 cases l<;>simp[kj,sl]
@[go_sem] theorem j9x {z:Nat}{b:Bool}{xs:List qa}:kj z (.list b z xs)=I xs:=by simp[kj]
@[go_sem] theorem zjg {z z':Nat}{b:Bool}:kj z (.list b z' [])=I []:=by simp[kj]
@[go_sem] theorem jvo {z:Nat}{xs ys:List qa}:pF En z xs ys=.list En z (xs++ys):=rfl
@[go_sem] theorem jx3 {z:Nat}{b:Bool}{xs:List qa}{y:qa}{ys:List qa}:pF b z xs (y::ys)=.list En z (xs++y::ys):=by cases b<;>rfl
attribute [go_sem] Option.isSome_some Option.isSome_none Bool.or_true Bool.true_or List.isEmpty_nil List.isEmpty_cons Bool.and_false Bool.false_and
def Uz (h:j8)(i:Nat)(x:Option qa):Option qq:=match x with
 |some (.aB vs)=>fW h vs[i]?
 |_=>Ef
@[go_sem] theorem jse {i:Nat}{vs:List qa}:Uz h i (I (.aB vs))=fW h vs[i]?:=rfl
@[go_sem] theorem j7f {i:Nat}{x:qh}:j9 p xc h0 al e h (.extract x i)=Uz h i (zc e x):=by
 simp only[j9,zh,Uz]
 cases zc e x with
 |none=>rfl
 |some v=>cases v<;>rfl
def UA (op:UnOp)(h:j8)(x:Option qa):Option qq:=match x with
 |some v=>fW h (wL op v)
 |none=>Ef
@[go_sem] theorem j9p {op:UnOp}{v:qa}:UA op h (I v)=fW h (wL op v):=rfl
@[go_sem] theorem zku {op:UnOp}{x:qh}:j9 p xc h0 al e h (.un op x)=UA op h (zc e x):=by
 simp only[j9,zh,UA]
 cases zc e x<;>rfl
@[go_sem] theorem zj5 {b:Bool}:wL .not (.bool b)=I (.bool (!b)):=rfl
@[go_sem] theorem zjo {k:IntKind}{n:Int}:wL .neg (.int k n)=I (.int k (j6 k (0-n))):=rfl
def UB (neq:Bool)(h:j8)(x y:Option qa):Option qq:=match x,y with
 |some (.bool a),I (.bool b)=>val h (.bool (bif neq then !(a == b)else a == b))
 |_,_=>Ef
@[go_sem] theorem j67 {neq a b:Bool}:UB neq h (I (.bool a)) (I (.bool b))=I ⟨.bool (bif neq then !(a == b)else a == b),En,Ef,h⟩:=rfl
@[go_sem] theorem zki {neq:Bool}{x y:qh}:j9 p xc h0 al e h (.beq neq x y)=UB neq h (zc e x) (zc e y):=by
 simp only[j9,zh,UB]
 cases zc e x with
 |none=>rfl
 |some v=>cases v<;>cases zc e y<;>rfl
def UC (f:Fn)(h:j8)(a b:Option (List qa)):Option qq:=match a,b with
 |some a,I b=>val h (.fn f a b)
 |_,_=>Ef
@[go_sem] theorem juf {f:Fn}{a b:List qa}:UC f h (I a) (I b)=I ⟨.fn f a b,En,Ef,h⟩:=rfl
@[go_sem] theorem zha {f:Fn}{a b:List qh}:j9 p xc h0 al e h (.fV f a b)=UC f h (fF e a) (fF e b):=by
 simp only[j9,zh,UC]
 cases fF e a<;>cases fF e b<;>rfl
def Gu (f:qa→qa→Option qa)(h:j8)(l:Option (List qa)):Option qq:=match l with
 |some (v::vs)=>fW h (nx f v vs)
 |_=>Ef
@[go_sem] theorem zdr {f:qa→qa→Option qa}{v:qa}{vs:List qa}:Gu f h (I (v::vs))=fW h (nx f v vs):=rfl
@[go_sem] theorem zkv {l:List qh}:j9 p xc h0 al e h (.mx l)=Gu max2 h (fF e l):=by
 simp only[j9,zh,Gu]
 cases fF e l with
 |none=>rfl
 |some vs=>cases vs<;>rfl
@[go_sem] theorem zkt {l:List qh}:j9 p xc h0 al e h (.mn l)=Gu min2 h (fF e l):=by
 simp only[j9,zh,Gu]
 cases fF e l with
 |none=>rfl
 |some vs=>cases vs<;>rfl
def UD (f:qa→qa→Option qa)(x:Option qa)(l:List qa):Option qa:=match x with
 |some z=>nx f z l
 |none=>Ef
@[go_sem] theorem j4n {f:qa→qa→Option qa}{x:qa}{l:List qa}:UD f (I x) l=nx f x l:=rfl
@[go_sem] theorem j7z {f:qa→qa→Option qa}{x:qa}:nx f x []=I x:=rfl
@[go_sem] theorem j5r {f:qa→qa→Option qa}{x y:qa}{l:List qa}:nx f x (y::l)=UD f (f x y) l:=by
 simp only[nx,UD];rfl
@[go_sem] theorem zd1 {k:IntKind}{x y:Int}:max2 (.int k x) (.int k y)=I (.int k (max x y)):=by
 simp only[max2,decide_true,cT]
 congr 2
 by_cases h:y > x
 ·rw[if_pos h];omega
 ·rw[if_neg h];omega
@[go_sem] theorem za7 {k:IntKind}{x y:Int}:min2 (.int k x) (.int k y)=I (.int k (min x y)):=by
 simp only[min2,decide_true,cT]
 congr 2
 by_cases h:y<x
 ·rw[if_pos h];omega
 ·rw[if_neg h];omega
def UE (k:Nat)(neq:Bool)(h:j8)(x:Option qa):Option qq:=match k,x with
  |0,I (.list n _ _)=>val h (.bool (bif neq then !n else n))
  |0,I (.ms ..)=>val h (.bool neq)
  |1,I .bO=>val h (.bool (!neq))
  |1,I (.ptr ..)=>val h (.bool neq)
  |1,I (.ah ..)=>val h (.bool neq)
  |2,I .bN=>val h (.bool (!neq))
  |2,I (.map ..)=>val h (.bool neq)
  |3,I .bY=>val h (.bool (!neq))
  |3,I (.fn ..)=>val h (.bool neq)
  |_,_=>Ef
@[go_sem] theorem zi3 {k:Nat}{neq:Bool}{x:qh}:j9 p xc h0 al e h (.eQ k neq x)=UE k neq h (zc e x):=rfl
@[go_sem] theorem jzv {neq n:Bool}{z:Nat}{xs:List qa}:UE 0 neq h (I (.list n z xs))=I ⟨.bool (bif neq then !n else n),En,Ef,h⟩:=rfl
@[go_sem] theorem j74 {n:Nat}{k:IntKind}{i:Int}:below n (.int k i)=E1:=rfl
@[go_sem] theorem jwo {n:Nat}{b:Bool}:below n (.bool b)=E1:=rfl
@[go_sem] theorem j7g {n:Nat}{s:List UInt8}:below n (.str s)=E1:=rfl
@[go_sem] theorem jxy {n:Nat}{b:Bool}{z:Nat}{xs:List qa}:below n (.list b z xs)=zu n xs:=by simp only[below]
@[go_sem] theorem j8r {n:Nat}{xs:List qa}:below n (.agg xs)=zu n xs:=by simp only[below]
@[go_sem] theorem j7j {n:Nat}{xs:List qa}:below n (.aB xs)=zu n xs:=by simp only[below]
@[go_sem] theorem j8z {n b o:Nat}:below n (.ptr b o)=decide (b<n):=by simp only[below,uC]
@[go_sem] theorem j9d {n b:Nat}:below n (.map b)=decide (b<n):=by simp only[below,uC]
@[go_sem] theorem zco {n k:Nat}{a b:List qa}:below n (.fn (.func k) a b)=(zu n a&&zu n b):=by simp only[below]
@[go_sem] theorem j2i {n:Nat}:zu n []=E1:=by simp only[zu]
@[go_sem] theorem q6a {n:Nat}{x:qa}{xs:List qa}:zu n (x::xs)=(below n x&&zu n xs):=by simp only[zu]
@[go_sem] theorem j4e {n:Nat}{i:Int}:below n (kr i)=E1:=rfl
@[go_sem] theorem jzy {n z:Nat}{l:Option (List Int)}:below n (sl z kr l)=E1:=uA fun _=>rfl
theorem qya {n:Nat}{f:α→qa}(hf:∀x,below n (f x)=E1):∀l:List α,zu n (l.map f)=E1
 | []=>rfl
 |x::l=>by rw[List.map_cons,q6a,hf,qya hf l];rfl
@[go_sem] theorem jv4 {n:Nat}{l:List Int}:zu n (l.map kr)=E1:=qya (fun _=>rfl) l
@[go_sem] theorem zis {k:IntKind}{i:Int}:iB h (.int k i)=I (.int k i):=rfl
@[go_sem] theorem zgq {b:Bool}:iB h (.bool b)=I (.bool b):=rfl
@[go_sem] theorem zi2 {s:List UInt8}:iB h (.str s)=I (.str s):=rfl
@[go_sem] theorem zfl {b:Bool}{z:Nat}{xs:List qa}:iB h (.list b z xs)=I (.list b z xs):=rfl
@[go_sem] theorem jr9 {z:Nat}{f:α→qa}{l:Option (List α)}:iB h (sl z f l)=I (sl z f l):=by cases l<;>rfl
@[go_sem] theorem j9m:lf h []=I []:=rfl
@[go_sem] theorem j9e {v:qa}{vs:List qa}:lf h (v::vs)=pn (iB h v) (lf h vs):=by
 simp only[lf,pn]
 cases iB h v with
 |none=>rfl
 |some x=>cases lf h vs<;>rfl
def M8 (l:Option (List qa)):Option qa:=match l with
 |some xs=>I (.agg xs)
 |none=>Ef
@[go_sem] theorem j7i {xs:List qa}:M8 (I xs)=I (.agg xs):=rfl
@[go_sem] theorem UF {cs:List qa}:aC h (.agg cs)=M8 (lf h cs):=by
 simp only[aC,M8]
 cases lf h cs<;>rfl
@[go_sem] theorem ze7 {k:IntKind}{i:Int}:aC h (.int k i)=I (.int k i):=rfl
@[go_sem] theorem j72 {b:Bool}:aC h (.bool b)=I (.bool b):=rfl
@[go_sem] theorem zhk {s:List UInt8}:aC h (.str s)=I (.str s):=rfl
@[go_sem] theorem j9f {b:Bool}{z:Nat}{xs:List qa}:aC h (.list b z xs)=I (.list b z xs):=rfl
@[go_sem] theorem zjc {z:Nat}{f:α→qa}{l:Option (List α)}:aC h (sl z f l)=I (sl z f l):=by cases l<;>rfl
def UG (l:Option (List qa)):Option qa:=match l with
 |some xs=>I (.aB xs)
 |none=>Ef
@[go_sem] theorem j7w {xs:List qa}:UG (I xs)=I (.aB xs):=rfl
@[go_sem] theorem zgg {cs:List qa}:aC h (.aB cs)=UG (aC.bn h cs):=by
 simp only[aC,UG]
 cases aC.bn h cs<;>rfl
@[go_sem] theorem zb9:aC.bn h []=I []:=rfl
@[go_sem] theorem ze0 {cs vs:List qa}:aC.bn h (.agg cs::vs)=pn (M8 (lf h cs)) (aC.bn h vs):=by
 rw[aC.bn]
 cases lf h cs with
 |none=>rfl
 |some x=>cases aC.bn h vs<;>rfl
theorem Gv {v:qa}{vs:List qa}(hv:v.isAgg=En):aC.bn h (v::vs)=pn (iB h v) (aC.bn h vs):=by
 have:∀cs,v≠.agg cs:=fun cs hc=>by rw[hc]at hv;cases hv
 rw[aC.bn]
 ·cases iB h v with
  |none=>rfl
  |some x=>cases aC.bn h vs<;>rfl
 ·exact this
@[go_sem] theorem zgr {k:IntKind}{i:Int}{vs:List qa}:aC.bn h (.int k i::vs)=pn (I (.int k i)) (aC.bn h vs):=Gv rfl
@[go_sem] theorem j7b {b:Bool}{vs:List qa}:aC.bn h (.bool b::vs)=pn (I (.bool b)) (aC.bn h vs):=Gv rfl
@[go_sem] theorem zdy {s:List UInt8}{vs:List qa}:aC.bn h (.str s::vs)=pn (I (.str s)) (aC.bn h vs):=Gv rfl
@[go_sem] theorem j7s {b:Bool}{z:Nat}{xs vs:List qa}:aC.bn h (.list b z xs::vs)=pn (I (.list b z xs)) (aC.bn h vs):=Gv rfl
@[go_sem] theorem zjd {z:Nat}{f:α→qa}{l:Option (List α)}{vs:List qa}:aC.bn h (sl z f l::vs)=pn (I (sl z f l)) (aC.bn h vs):=by
 rw[Gv (by cases l<;>rfl),jr9]
attribute [go_sem] List.contains_cons List.contains_nil
@[go_sem] theorem zix {a b:Nat}:(a == b)=decide (a=b):=by
 by_cases pI:a=b<;>simp[pI]
def Gw (agg:Bool)(c:Option (qa×Bool))(vs:Option (List qa)):Option (qa×Bool):=match vs,agg with
 |some vs,E1=>I (.agg vs,En)
 |some _,En=>c
 |none,_=>Ef
@[go_sem] theorem j71 {c:Option (qa×Bool)}{vs:List qa}:Gw E1 c (I vs)=I (.agg vs,En):=rfl
@[go_sem] theorem j7d {c:Option (qa×Bool)}{vs:List qa}:Gw En c (I vs)=c:=rfl
def M9 (agg:Bool)(o n:Nat)(cs:Option (List (qa×Bool))):Option (qa×Bool):=match cs with
 |some cs=>Gw agg cs[o]? (y8 cs o n)
 |none=>Ef
@[go_sem] theorem j51 {agg:Bool}{o n:Nat}{cs:List (qa×Bool)}:M9 agg o n (I cs)=Gw agg cs[o]? (y8 cs o n):=rfl
def UH (agg:Bool)(n:Nat)(h:j8)(x:Option (qa×Bool)):Option (qa×Bool):=match x with
 |some (.ptr b o,_)=>M9 agg o n (ym h b)
 |_=>Ef
@[go_sem] theorem j7a {agg:Bool}{n b o:Nat}{w:Bool}:UH agg n h (I (.ptr b o,w))=M9 agg o n (ym h b):=rfl
@[go_sem] theorem jnr {t n:Nat}{agg:Bool}:tY ⟨e,h⟩ (.cell t agg n)=UH agg n h (yd t e):=by
 simp only[tY,UH]
 cases yd t e with
 |none=>rfl
 |some x=>
  obtain⟨v,w⟩:=x
  cases v with
  |ptr b o=>
   simp only[M9]
   cases ym h b with
   |none=>rfl
   |some cs=>
    simp only[Gw]
    cases y8 cs o n with
    |none=>rfl
    |some vs=>cases agg with
     |true=>rfl
     |false=>simp only[cond_false];cases cs[o]?<;>rfl
  |_=>rfl
theorem ko {k:Nat}{args:List qa}{v v':qa}{o:Bool}(hp:p.cq k=Ef)(hc:zf p xc k args []=I (v,o,h))(hz:aC h v=I v')(hv:below 0 v'=E1):jy p xc k args=I (v',o&&v.cu):=by
 unfold jy
 rw[hp]
 simp only[hc,hz,lU,hv,cT]
end
end Go.Abs
