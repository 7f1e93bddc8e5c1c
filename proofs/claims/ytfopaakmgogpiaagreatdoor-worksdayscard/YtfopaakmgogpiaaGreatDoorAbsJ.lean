/- Equations of the executor, second part. -/
import Derived.Test.YtfopaakmgogpiaaGreatDoorAbsI
open Option renaming some→I,none→En
open Bool renaming false→E1,true→E3
open Nat renaming beq→E2,ble→E4,blt→E6,eq_of_beq_eq_true→Gk
namespace Go.Abs
section
variable {p:qt}{xc:XC}{h0:Nat}{al:Option (List Nat)}{e:Env}{h:j8}{α:Type}
attribute [go_sem] List.getElem?_cons_zero List.getElem?_cons_succ List.getElem?_nil List.set_cons_zero List.set_cons_succ List.set_nil List.cons_append List.replicate_zero List.replicate_succ List.map_cons List.map_nil List.all_cons List.all_nil List.drop_zero List.drop_succ_cons List.take_zero List.take_succ_cons List.drop_nil List.take_nil Bool.and_true Bool.true_and Bool.or_false Bool.false_or Bool.and_self List.headD_cons List.foldl_cons List.foldl_nil List.flatMap_cons List.flatMap_nil
@[go_sem] theorem zjp {k:IntKind}{n:Int}:ze (.int k n)=E3:=rfl
@[go_sem] theorem zi2 {b:Bool}:ze (.bool b)=E3:=rfl
@[go_sem] theorem zjn {s:List UInt8}:ze (.str s)=E3:=rfl
@[go_sem] theorem zjd {b:Bool}{z:Nat}{xs:List qa}:ze (.list b z xs)=E3:=rfl
@[go_sem] theorem zkr {b o n:Nat}:ze (.ms b o n)=E3:=rfl
@[go_sem] theorem zjo {b o:Nat}:ze (.ptr b o)=E3:=rfl
@[go_sem] theorem zjx {b:Nat}:ze (.map b)=E3:=rfl
@[go_sem] theorem j70:ze .bN=E3:=rfl
@[go_sem] theorem j8i:ze .bM=E3:=rfl
@[go_sem] theorem zbb:ze .bX=E3:=rfl
@[go_sem] theorem zkd {f:Fn}{a b:List qa}:ze (.fn f a b)=E3:=rfl
@[go_sem] theorem zku {z:Nat}{f:α→qa}{l:Option (List α)}:ze (sl z f l)=E3:=by cases l<;>rfl
@[go_sem] theorem zbk {cs:List qa}:qa.flat (.agg cs)=cs:=rfl
@[go_sem] theorem zdr {k:IntKind}{n:Int}:qa.flat (.int k n)=[.int k n]:=rfl
@[go_sem] theorem j7w {b:Bool}:qa.flat (.bool b)=[.bool b]:=rfl
@[go_sem] theorem zbn {s:List UInt8}:qa.flat (.str s)=[.str s]:=rfl
@[go_sem] theorem j63 {b:Bool}{z:Nat}{xs:List qa}:qa.flat (.list b z xs)=[.list b z xs]:=rfl
@[go_sem] theorem zji {z:Nat}{f:α→qa}{l:Option (List α)}:qa.flat (sl z f l)=[sl z f l]:=by cases l<;>rfl
@[go_sem] theorem zif {b o:Nat}:qa.flat (.ptr b o)=[.ptr b o]:=rfl
@[go_sem] theorem zeq {b:Nat}:qa.flat (.map b)=[.map b]:=rfl
@[go_sem] theorem zjl {f:Fn}{a b:List qa}:qa.flat (.fn f a b)=[.fn f a b]:=rfl
@[go_sem] theorem zi0 {b o n:Nat}:qa.flat (.ms b o n)=[.ms b o n]:=rfl
@[go_sem] theorem M3 {a b:Nat}:E2 a b=decide (a=b):=by
 cases h:E2 a b with
 |true=>have:=Gk h;simp[this]
 |false=>
  have:a≠b:=fun hh=>by subst hh;simp at h
  simp[this]
@[go_sem] theorem mK {a b:Nat}:E4 a b=decide (a≤b):=by
 cases h:E4 a b with
 |true=>have:=Nat.le_of_ble_eq_true h;simp[this]
 |false=>
  have:¬a≤b:=fun hh=>by rw[Nat.ble_eq_true_of_le hh]at h;cases h
  simp[this]
@[go_sem] theorem uv {a b:Nat}:E6 a b=decide (a<b):=by
 show E4 (a+1) b=_
 rw[mK];rfl
@[go_sem] theorem j84 {b:Nat}:yv h0 En b=E3:=rfl
@[go_sem] theorem zje:nR []=E1:=rfl
@[go_sem] theorem zgx {k:Nat}{l:List Nat}:nR (k::l)=decide (1000≤k):=by simp only[nR,mK]
@[go_sem] theorem zdv {k b:Nat}{l:List Nat}:yI h0 (k::l) b=cond (decide (k<2000)) (decide (b=k-1000)&&decide (b<h0)) (cond (decide (k<4000)) (decide (b=h0+(k-2000))) (decide (b<h0))):=by
 have e:∀x y:Nat,E2 x y=decide (x=y):=fun x y=>by
  cases h:E2 x y with
  |true=>rw[Gk h];simp
  |false=>
   have:x≠y:=fun e=>by rw[e,Nat.beq_refl]at h;cases h
   simp[this]
 simp only[yI,uv,e]
@[go_sem] theorem jz9 {b:Nat}{l:List Nat}:yv h0 (I l) b=cond (nR l) (yI h0 l b) (decide (b<h0)||l.contains (b-h0)):=by simp only[yv,uv]
def gP (r:Option j8)(v:qa):Option qq:=match r with
 |some h'=>I ⟨v,E1,En,h'⟩
 |none=>En
@[go_sem] theorem j77 {v:qa}:gP (I h) v=I ⟨v,E1,En,h⟩:=rfl
@[go_sem] theorem j8l {h0 r:Nat}{es:List (qa×qa)}:M2 h0 r h E3 (I es)=gP (aJ h0 h r (.map es)) (.map (h0+r)):=rfl
def Uj (n:Nat)(h:j8)(b:Option qn)(x:qn):Option j8:=match b with
 |some .hole=>I (h.set n x)
 |_=>En
@[go_sem] theorem j8s {n:Nat}{x:qn}:Uj n h (I .hole) x=I (h.set n x):=rfl
@[go_sem] theorem j89 {r:Nat}{x:qn}:aJ h0 h r x=Uj (h0+r) h h[h0+r]? x:=by
 unfold aJ Uj;rfl
def bR (b:Bool)(r:Option qq):Option qq:=match b with
 |true=>r
 |false=>En
@[go_sem] theorem zhp {r:Option qq}:bR E3 r=r:=rfl
@[go_sem] theorem ziy {r:Nat}{z:List qa}:za p xc h0 al e h (.alloc r z)=bR (z.all ze) (gP (aJ h0 h r (.cells (cellsOf z))) (.ptr (h0+r) 0)):=by
 simp only[za,zm,bR]
 cases z.all ze with
 |false=>rfl
 |true=>simp only[cT,gP];cases aJ h0 h r (.cells (cellsOf z))<;>rfl
def Uk (n:Nat)(h:j8)(x:Option qa):Option qq:=match x with
 |some v=>bR (E2 v.flat.length n&&v.flat.all ze) (I ⟨.ah v,E1,En,h⟩)
 |none=>En
@[go_sem] theorem j2p {n:Nat}{v:qa}:Uk n h (I v)=bR (E2 v.flat.length n&&v.flat.all ze) (I ⟨.ah v,E1,En,h⟩):=rfl
@[go_sem] theorem zj5 {n:Nat}{x:qh}:za p xc h0 al e h (.nP n x)=Uk n h (zd e x):=by
 simp only[za,zi,Uk]
 cases zd e x with
 |none=>rfl
 |some v=>
  simp only[bR]
  cases (E2 v.flat.length n&&v.flat.all ze)<;>rfl
def Ul (h0 r n:Nat)(h:j8)(x:Option qa):Option qq:=match x with
 |some v=>bR (E2 v.flat.length n&&v.flat.all ze) (gP (aJ h0 h r (.cells (cellsOf v.flat))) (.ptr (h0+r) 0))
 |none=>En
@[go_sem] theorem j8e {r n:Nat}{v:qa}:Ul h0 r n h (I v)=bR (E2 v.flat.length n&&v.flat.all ze) (gP (aJ h0 h r (.cells (cellsOf v.flat))) (.ptr (h0+r) 0)):=rfl
@[go_sem] theorem zkj {r n:Nat}{x:qh}:za p xc h0 al e h (.box r n x)=Ul h0 r n h (zd e x):=by
 simp only[za,zm,Ul]
 cases zd e x with
 |none=>rfl
 |some v=>
  simp only[bR,gP]
  cases (E2 v.flat.length n&&v.flat.all ze)with
  |false=>rfl
  |true=>simp only[cT];cases aJ h0 h r (.cells (cellsOf v.flat))<;>rfl
@[go_sem] theorem ziz {r:Nat}:za p xc h0 al e h (.dK r)=gP (aJ h0 h r (.map [])) (.map (h0+r)):=by
 simp only[za,zm,gP]
 cases aJ h0 h r (.map [])<;>rfl
@[go_sem] theorem jvi:cellsOf []=[]:=rfl
@[go_sem] theorem jn6 {v:qa}{vs:List qa}:cellsOf (v::vs)=(v,E1)::cellsOf vs:=rfl
def uw (agg:Bool)(h:j8)(r:Option qa):Option qq:=match r with
 |some v=>bif Bool.xor agg v.isAgg then En else val h (.ah v)
 |none=>En
def Dy (agg:Bool)(off n:Nat)(h:j8)(x:Option qa):Option qq:=match x with
 |some (.ptr b o)=>val h (.ptr b (o+off))
 |some (.ah (.agg cs))=>uw agg h (part agg cs off n)
 |some (.dq b bu o)=>val h (.dq b bu (o+off))
 |_=>En
@[go_sem] theorem jny {agg:Bool}{off n b v o:Nat}:Dy agg off n h (I (.dq b v o))=I ⟨.dq b v (o+off),E1,En,h⟩:=rfl
@[go_sem] theorem jn1 {agg:Bool}{off n b o:Nat}:Dy agg off n h (I (.ptr b o))=I ⟨.ptr b (o+off),E1,En,h⟩:=rfl
@[go_sem] theorem jmr {agg:Bool}{off n:Nat}{cs:List qa}:Dy agg off n h (I (.ah (.agg cs)))=uw agg h (part agg cs off n):=rfl
@[go_sem] theorem ju8 {agg:Bool}{off n:Nat}{x:qh}:za p xc h0 al e h (.fieldAddr agg off n x)=Dy agg off n h (zd e x):=by
 simp only[za,zi,Dy]
 cases zd e x with
 |none=>rfl
 |some v=>cases v with
  |ah v=>cases v<;>rfl
  |_=>rfl
def zju (v:qa):Prop:=v.isAgg=E1
theorem j62 {v:qa}(hv:v.isAgg=E1):uw E1 h (I v)=I ⟨.ah v,E1,En,h⟩:=by simp[uw,hv,val]
@[go_sem] theorem j65 {k:IntKind}{n:Int}:uw E1 h (I (.int k n))=I ⟨.ah (.int k n),E1,En,h⟩:=rfl
@[go_sem] theorem j7o {s:List UInt8}:uw E1 h (I (.str s))=I ⟨.ah (.str s),E1,En,h⟩:=rfl
@[go_sem] theorem jzb {b:Bool}:uw E1 h (I (.bool b))=I ⟨.ah (.bool b),E1,En,h⟩:=rfl
@[go_sem] theorem zb5 {z:Nat}{f:α→qa}{l:Option (List α)}:uw E1 h (I (sl z f l))=I ⟨.ah (sl z f l),E1,En,h⟩:=by cases l<;>rfl
@[go_sem] theorem j76 {cs:List qa}:uw E3 h (I (.agg cs))=I ⟨.ah (.agg cs),E1,En,h⟩:=rfl
@[go_sem] theorem zeg {cs:List qa}{off n:Nat}:part E1 cs off n=cs[off]?:=rfl
def Um (b:Bool)(cs:List qa)(off n:Nat):Option qa:=match b with
 |true=>I (.agg ((cs.drop off).take n))
 |false=>En
@[go_sem] theorem jy7 {cs:List qa}{off n:Nat}:Um E3 cs off n=I (.agg ((cs.drop off).take n)):=rfl
@[go_sem] theorem zcw {cs:List qa}{off n:Nat}:part E3 cs off n=Um (decide (off+n≤cs.length)) cs off n:=by
 simp only[part,Um,cT,mK]
 cases decide (off+n≤cs.length)<;>rfl
@[go_sem] theorem zcz {z:Nat}{f:α→qa}{l:Option (List α)}:gd h0 al E1 1 h (I (.ah (sl z f l)))=I ⟨sl z f l,E1,En,h⟩:=by cases l<;>rfl
def Un (h:j8)(cs:List qa)(b:Bool):Option qq:=match b with
 |true=>I ⟨.agg cs,E1,En,h⟩
 |false=>En
@[go_sem] theorem j8u {cs:List qa}:Un h cs E3=I ⟨.agg cs,E1,En,h⟩:=rfl
@[go_sem] theorem j1m {n:Nat}{cs:List qa}:gd h0 al E3 n h (I (.ah (.agg cs)))=Un h cs (decide (cs.length=n)):=by
 unfold Un
 by_cases hn:cs.length=n
 ·rw[jdj hn];simp[hn]
 ·simp[gd,qa.isAgg,qa.flat,hn,M3]
def Ge (agg:Bool)(h:j8)(vs:Option (List qa)):Option qq:=match vs with
 |some vs=>bif agg then val h (.agg vs)else(match vs with
  | [v]=>val h v
  |_=>En)
 |none=>En
@[go_sem] theorem zgp {vs:List qa}:Ge E3 h (I vs)=I ⟨.agg vs,E1,En,h⟩:=rfl
@[go_sem] theorem zf5 {v:qa}:Ge E1 h (I [v])=I ⟨v,E1,En,h⟩:=rfl
def Uo (b:Option qn):Option (List (qa×Bool)):=match b with
 |some (.cells cs)=>I cs
 |_=>En
@[go_sem] theorem jv4 {cs:List (qa×Bool)}:Uo (I (.cells cs))=I cs:=rfl
@[go_sem] theorem q53 {b:Nat}:yl h b=Uo h[b]?:=by unfold yl Uo;rfl
def Up (b:Bool)(cs:List (qa×Bool))(off n:Nat):Option (List qa):=match b with
 |true=>I (((cs.drop off).take n).map (·.1))
 |false=>En
@[go_sem] theorem zgi {cs:List (qa×Bool)}{off n:Nat}:Up E3 cs off n=I (((cs.drop off).take n).map (·.1)):=rfl
@[go_sem] theorem jsy {cs:List (qa×Bool)}{off n:Nat}:y9 cs off n=Up (decide (off+n≤cs.length)) cs off n:=by
 simp only[y9,Up,mK]
 cases decide (off+n≤cs.length)<;>rfl
def Uq (agg:Bool)(o n:Nat)(h:j8)(cs:Option (List (qa×Bool))):Option qq:=match cs with
 |some cs=>Ge agg h (y9 cs o n)
 |none=>En
@[go_sem] theorem j7t {agg:Bool}{o n:Nat}{cs:List (qa×Bool)}:Uq agg o n h (I cs)=Ge agg h (y9 cs o n):=rfl
@[go_sem] theorem j7n {agg:Bool}{n b o:Nat}:gd h0 al agg n h (I (.ptr b o))=bR (yv h0 al b) (Uq agg o n h (yl h b)):=by
 simp only[gd,bR,Uq,Ge]
 cases yv h0 al b with
 |false=>rfl
 |true=>
  simp only[cT]
  cases yl h b with
  |none=>rfl
  |some cs=>simp only[];cases y9 cs o n<;>rfl
def M4 (r:Option j8)(v:qa)(w:Bool):Option qq:=match r with
 |some h'=>I ⟨v,w,En,h'⟩
 |none=>En
@[go_sem] theorem jzy {v:qa}{w:Bool}:M4 (I h) v w=I ⟨v,w,En,h⟩:=rfl
def M5 (h:j8)(b o:Nat)(cs:List (qa×Bool))(x:Option (qa×Bool)):Option qq:=match x with
 |some (v,w)=>M4 (yj h b (.cells (cs.set o (v,E1)))) v w
 |none=>En
@[go_sem] theorem jwi {b o:Nat}{cs:List (qa×Bool)}{v:qa}{w:Bool}:M5 h b o cs (I (v,w))=M4 (yj h b (.cells (cs.set o (v,E1)))) v w:=rfl
def M6 (h:j8)(b o:Nat)(cs:Option (List (qa×Bool))):Option qq:=match cs with
 |some cs=>M5 h b o cs cs[o]?
 |none=>En
@[go_sem] theorem jyy {b o:Nat}{cs:List (qa×Bool)}:M6 h b o (I cs)=M5 h b o cs cs[o]?:=rfl
def Ur (h0:Nat)(al:Option (List Nat))(off:Option Nat)(h:j8)(x:Option qa):Option qq:=match x with
 |some (.ptr b o)=>bR (yv h0 al b&&tS off o) (M6 h b o (yl h b))
 |_=>En
@[go_sem] theorem jnu {off:Option Nat}{b o:Nat}:Ur h0 al off h (I (.ptr b o))=bR (yv h0 al b&&tS off o) (M6 h b o (yl h b)):=rfl
@[go_sem] theorem jx7 {o:Nat}:tS En o=E3:=rfl
@[go_sem] theorem j1p {a o:Nat}:tS (I a) o=decide (a=o):=by simp only[tS,M3]
@[go_sem] theorem j6l {off:Option Nat}{x:qh}:za p xc h0 al e h (.b6 off x)=Ur h0 al off h (zd e x):=by
 simp only[za,zm,Ur]
 cases zd e x with
 |none=>rfl
 |some v=>cases v with
  |ptr b o=>
   simp only[bR,M6,M5,M4]
   cases (yv h0 al b&&tS off o)with
   |false=>rfl
   |true=>
    simp only[cT]
    cases yl h b with
    |none=>rfl
    |some cs=>
     simp only[]
     cases cs[o]? with
     |none=>rfl
     |some c=>
      obtain⟨v,w⟩:=c
      simp only[]
      cases yj h b (.cells (cs.set o (v,E1)))<;>rfl
  |_=>rfl
def Us (b:Bool)(n:Nat)(x:qn)(h:j8):Option j8:=match b with
 |true=>I (h.set n x)
 |false=>En
@[go_sem] theorem j7r {n:Nat}{x:qn}:Us E3 n x h=I (h.set n x):=rfl
@[go_sem] theorem j8b {b:Nat}{x:qn}:yj h b x=Us (decide (b<h.length)) b x h:=by
 simp only[yj,Us,uv]
 cases decide (b<h.length)<;>rfl
def Ut (b:Bool)(cs:List (qa×Bool))(off:Nat)(vs:List qa):Option (List (qa×Bool)):=match b with
 |true=>I (cs.take off++vs.map (·,E1)++cs.drop (off+vs.length))
 |false=>En
@[go_sem] theorem zha {cs:List (qa×Bool)}{off:Nat}{vs:List qa}:Ut E3 cs off vs=I (cs.take off++vs.map (·,E1)++cs.drop (off+vs.length)):=rfl
@[go_sem] theorem jnp {cs:List (qa×Bool)}{off:Nat}{vs:List qa}:yi cs off vs=Ut (decide (off+vs.length≤cs.length)&&vs.all ze) cs off vs:=by
 simp only[yi,Ut,mK]
 cases (decide (off+vs.length≤cs.length)&&vs.all ze)<;>rfl
def zk0 (e:Env)(x:qh):Option Nat:=kg e x
def M7 (t:Nat)(x:Option (qa×Bool)):Option Nat:=match x with
 |some (_,E3)=>I t
 |_=>En
@[go_sem] theorem j8j {t:Nat}{v:qa}:M7 t (I (v,E3))=I t:=rfl
@[go_sem] theorem jzw {t:Nat}{v:qa}:M7 t (I (v,E1))=En:=rfl
@[go_sem] theorem j79 {t:Nat}:kg e (.tmp t)=M7 t (yd t e):=by
 simp only[kg,M7];rfl
@[go_sem] theorem jvj {v:qa}:kg e (.const v)=En:=rfl
def M8 (h:j8)(b:Nat)(cs:Option (List (qa×Bool))):Option qq:=match cs with
 |some dQ=>gP (yj h b (.cells dQ)) .undef
 |none=>En
@[go_sem] theorem jqs {b:Nat}{cs:List (qa×Bool)}:M8 h b (I cs)=gP (yj h b (.cells cs)) .undef:=rfl
def M9 (t:Nat)(r:Option j8):Option qq:=match r with
 |some h'=>I ⟨.undef,E1,I t,h'⟩
 |none=>En
@[go_sem] theorem jw1 {t:Nat}:M9 t (I h)=I ⟨.undef,E1,I t,h⟩:=rfl
def Gf (n:Nat)(h:j8)(b o:Nat)(v:qa)(own:Option Nat)(cs:Option (List (qa×Bool))):Option qq:=match cs,own with
 |some cs,I t=>bR (E2 n 1&&v.cu&&E6 o cs.length) (M9 t (yj h b (.cells (cs.set o (v,E3)))))
 |some cs,En=>bR (E2 v.flat.length n) (M8 h b (yi cs o v.flat))
 |none,_=>En
@[go_sem] theorem jwp {n b o t:Nat}{v:qa}{cs:List (qa×Bool)}:Gf n h b o v (I t) (I cs)=bR (E2 n 1&&v.cu&&E6 o cs.length) (M9 t (yj h b (.cells (cs.set o (v,E3))))):=rfl
@[go_sem] theorem jui {n b o:Nat}{v:qa}{cs:List (qa×Bool)}:Gf n h b o v En (I cs)=bR (E2 v.flat.length n) (M8 h b (yi cs o v.flat)):=rfl
def Uu (h0:Nat)(al:Option (List Nat))(n:Nat)(h:j8)(own:Option Nat)(a x:Option qa):Option qq:=match a,x with
 |some (.ptr b o),I v=>bR (yv h0 al b) (Gf n h b o v own (yl h b))
 |_,_=>En
@[go_sem] theorem j6t {n b o:Nat}{own:Option Nat}{v:qa}:Uu h0 al n h own (I (.ptr b o)) (I v)=bR (yv h0 al b) (Gf n h b o v own (yl h b)):=rfl
@[go_sem] theorem zi6 {n:Nat}{a x:qh}:za p xc h0 al e h (.store n a x)=Uu h0 al n h (kg e x) (zd e a) (zd e x):=by
 simp only[za,zm,Uu]
 cases zd e a with
 |none=>rfl
 |some va=>
  cases va with
  |ptr b o=>
   cases zd e x with
   |none=>rfl
   |some v=>
    simp only[bR]
    cases yv h0 al b with
    |false=>rfl
    |true=>
     simp only[cT]
     cases yl h b with
     |none=>rfl
     |some cs=>
      simp only[Gf]
      cases kg e x with
      |none=>
       simp only[bR,M8,gP]
       cases E2 v.flat.length n with
       |false=>rfl
       |true=>
        simp only[cT]
        cases yi cs o v.flat with
        |none=>rfl
        |some dQ=>simp only[];cases yj h b (.cells dQ)<;>rfl
      |some t=>
       simp only[bR,M9]
       cases (E2 n 1&&v.cu&&E6 o cs.length)with
       |false=>rfl
       |true=>simp only[cT];cases yj h b (.cells (cs.set o (v,E3)))<;>rfl
  |_=>rfl
@[go_sem] theorem jvs {b:Bool}{z:Nat}{xs:List qa}:qa.cu (.list b z xs)=E3:=rfl
@[go_sem] theorem j83 {z:Nat}{f:α→qa}{l:Option (List α)}:qa.cu (sl z f l)=E3:=by cases l<;>rfl
def Na (b:Bool)(off:Nat)(vs:List qa)(l:Option (List (Nat×List qa))):Option (List (Nat×List qa)):=match b,l with
 |true,I r=>I ((off,vs)::r)
 |_,_=>En
@[go_sem] theorem jvm {off:Nat}{vs:List qa}{r:List (Nat×List qa)}:Na E3 off vs (I r)=I ((off,vs)::r):=rfl
def Uv (x:Option qa)(off n:Nat)(l:Option (List (Nat×List qa))):Option (List (Nat×List qa)):=match x with
 |some v=>Na (E2 v.flat.length n&&v.flat.all ze) off v.flat l
 |none=>En
@[go_sem] theorem jva {v:qa}{off n:Nat}{l:Option (List (Nat×List qa))}:Uv (I v) off n l=Na (E2 v.flat.length n&&v.flat.all ze) off v.flat l:=rfl
@[go_sem] theorem jno:kP e []=I []:=rfl
@[go_sem] theorem jk1 {off n:Nat}{x:qh}{l:List (Nat×Nat×qh)}:kP e ((off,n,x)::l)=Uv (zd e x) off n (kP e l):=by
 simp only[kP,Uv,Na]
 cases zd e x with
 |none=>rfl
 |some v=>simp only[];cases (E2 v.flat.length n&&v.flat.all ze)<;>cases kP e l<;>rfl
def jD (h:j8)(zero:List qa)(ps:Option (List (Nat×List qa))):Option qq:=match ps with
 |some ps=>nD h (iU zero ps)
 |none=>En
where nD (h:j8) (r:Option (List qa)):Option qq:=match r with
 |some cs=>I ⟨.agg cs,E1,En,h⟩
 |none=>En
@[go_sem] theorem j09 {zero:List qa}{ps:List (Nat×List qa)}:jD h zero (I ps)=jD.nD h (iU zero ps):=rfl
@[go_sem] theorem jy0 {cs:List qa}:jD.nD h (I cs)=I ⟨.agg cs,E1,En,h⟩:=rfl
@[go_sem] theorem ziw {zero:List qa}{ps:List (Nat×Nat×qh)}:za p xc h0 al e h (.build zero ps)=jD h zero (kP e ps):=by
 simp only[za,zi,jD,jD.nD]
 cases kP e ps with
 |none=>rfl
 |some ps=>simp only[];cases iU zero ps<;>rfl
@[go_sem] theorem j8r {cs:List qa}:iU cs []=I cs:=rfl
def Uw (b:Bool)(cs:List qa)(off:Nat)(vs:List qa)(l:List (Nat×List qa)):Option (List qa):=match b with
 |true=>iU (cs.take off++vs++cs.drop (off+vs.length)) l
 |false=>En
@[go_sem] theorem j49 {cs:List qa}{off:Nat}{vs:List qa}{l:List (Nat×List qa)}:Uw E3 cs off vs l=iU (cs.take off++vs++cs.drop (off+vs.length)) l:=rfl
@[go_sem] theorem j6i {cs:List qa}{off:Nat}{vs:List qa}{l:List (Nat×List qa)}:iU cs ((off,vs)::l)=Uw (decide (off+vs.length≤cs.length)) cs off vs l:=by
 simp only[iU,Uw,mK]
 cases decide (off+vs.length≤cs.length)<;>rfl
def gf (x:Option qa)(i sz:Nat)(l:Option (List (Nat×qa))):Option (List (Nat×qa)):=match x with
 |some v=>jU (E2 v.flat.length sz&&v.flat.all ze) i v l
 |none=>En
where jU (b:Bool) (i:Nat) (v:qa) (l:Option (List (Nat×qa))):Option (List (Nat×qa)):=match b,l with
 |true,I r=>I ((i,v)::r)
 |_,_=>En
@[go_sem] theorem jvo {v:qa}{i sz:Nat}{l:Option (List (Nat×qa))}:gf (I v) i sz l=gf.jU (E2 v.flat.length sz&&v.flat.all ze) i v l:=rfl
@[go_sem] theorem jvk {v:qa}{i:Nat}{r:List (Nat×qa)}:gf.jU E3 i v (I r)=I ((i,v)::r):=rfl
@[go_sem] theorem jnx {sz:Nat}:iA e sz []=I []:=rfl
@[go_sem] theorem jlk {sz i:Nat}{x:qh}{l:List (Nat×qh)}:iA e sz ((i,x)::l)=gf (zd e x) i sz (iA e sz l):=by
 simp only[iA,gf,gf.jU]
 cases zd e x with
 |none=>rfl
 |some v=>simp only[];cases (E2 v.flat.length sz&&v.flat.all ze)<;>cases iA e sz l<;>rfl
@[go_sem] theorem j7b {xs:List qa}:kQ xs []=I xs:=rfl
def Ux (b:Bool)(xs:List qa)(i:Nat)(v:qa)(l:List (Nat×qa)):Option (List qa):=match b with
 |true=>kQ (xs.set i v) l
 |false=>En
@[go_sem] theorem jvp {xs:List qa}{i:Nat}{v:qa}{l:List (Nat×qa)}:Ux E3 xs i v l=kQ (xs.set i v) l:=rfl
@[go_sem] theorem jxj {xs:List qa}{i:Nat}{v:qa}{l:List (Nat×qa)}:kQ xs ((i,v)::l)=Ux (decide (i<xs.length)) xs i v l:=by
 simp only[kQ,Ux,uv]
 cases decide (i<xs.length)<;>rfl
def gg (sz:Nat)(h:j8)(xs:List qa)(ps:Option (List (Nat×qa))):Option qq:=match ps with
 |some ps=>jV sz h (kQ xs ps)
 |none=>En
where jV (sz:Nat) (h:j8) (r:Option (List qa)):Option qq:=match r with
 |some xs=>I ⟨.list E1 sz xs,E3,En,h⟩
 |none=>En
@[go_sem] theorem jvc {sz:Nat}{xs:List qa}{ps:List (Nat×qa)}:gg sz h xs (I ps)=gg.jV sz h (kQ xs ps):=rfl
@[go_sem] theorem jvq {sz:Nat}{xs:List qa}:gg.jV sz h (I xs)=I ⟨.list E1 sz xs,E3,En,h⟩:=rfl
@[go_sem] theorem jq7 {sz len:Nat}{zero:List qa}{ps:List (Nat×qh)}:za p xc h0 al e h (.buildSlice sz len zero ps)=gg sz h (List.replicate len (bif E2 sz 1 then zero.headD .undef else .agg zero)) (iA e sz ps):=by
 simp only[za,zi,gg,gg.jV]
 cases iA e sz ps with
 |none=>rfl
 |some ps=>simp only[];cases kQ (List.replicate len (bif E2 sz 1 then zero.headD .undef else .agg zero)) ps<;>rfl
def bC (sz bytes:Nat)(h:j8)(own:Option Nat)(x y:Option qa):Option qq:=match x,y with
 |some (.list n cJ xs),I vy=>bR (n||own.isSome) (gQ sz bytes h own n cJ xs (kl sz vy))
 |_,_=>En
where gQ (sz bytes:Nat) (h:j8) (own:Option Nat) (n:Bool) (cJ:Nat) (xs:List qa) (ys:Option (List qa)):Option qq:=match ys with
 |some ys=>bR ((E2 sz cJ||(xs.isEmpty&&n))&&E4 (xs.length+ys.length) 1073741824&&E4 bytes 4096&&E6 0 sz) (I ⟨pw n sz xs ys,E3,own,h⟩)
 |none=>En
@[go_sem] theorem j66 {sz bytes:Nat}{own:Option Nat}{n:Bool}{cJ:Nat}{xs:List qa}{vy:qa}:bC sz bytes h own (I (.list n cJ xs)) (I vy)=bR (n||own.isSome) (bC.gQ sz bytes h own n cJ xs (kl sz vy)):=rfl
@[go_sem] theorem j8h {sz bytes:Nat}{own:Option Nat}{n:Bool}{cJ:Nat}{xs ys:List qa}:bC.gQ sz bytes h own n cJ xs (I ys)=bR ((E2 sz cJ||(xs.isEmpty&&n))&&E4 (xs.length+ys.length) 1073741824&&E4 bytes 4096&&E6 0 sz) (I ⟨pw n sz xs ys,E3,own,h⟩):=rfl
@[go_sem] theorem zc6 {sz bytes:Nat}{x y:qh}:za p xc h0 al e h (.append En sz bytes x y)=bC sz bytes h (kg e x) (zd e x) (zd e y):=by
 simp only[za,zi,bC,bC.gQ]
 cases zd e x with
 |none=>rfl
 |some vx=>
  cases vx with
  |list n cJ xs=>
   cases zd e y with
   |none=>rfl
   |some vy=>
    simp only[bR]
    cases (n||(kg e x).isSome)with
    |false=>rfl
    |true=>
     simp only[cT]
     cases kl sz vy with
     |none=>rfl
     |some ys=>simp only[];cases ((E2 sz cJ||(xs.isEmpty&&n))&&E4 (xs.length+ys.length) 1073741824&&E4 bytes 4096&&E6 0 sz)<;>rfl
  |_=>cases zd e y<;>rfl
@[go_sem] theorem Uy {z:Nat}{f:α→qa}{l:Option (List α)}:kl z (sl z f l)=I ((l.getD []).map f):=by
 cases l<;>simp[kl,sl]
@[go_sem] theorem za6 {z:Nat}{b:Bool}{xs:List qa}:kl z (.list b z xs)=I xs:=by simp[kl]
@[go_sem] theorem zjh {z z':Nat}{b:Bool}:kl z (.list b z' [])=I []:=by simp[kl]
@[go_sem] theorem jvh {z:Nat}{xs ys:List qa}:pw E1 z xs ys=.list E1 z (xs++ys):=rfl
@[go_sem] theorem j4f {z:Nat}{b:Bool}{xs:List qa}{y:qa}{ys:List qa}:pw b z xs (y::ys)=.list E1 z (xs++y::ys):=by cases b<;>rfl
attribute [go_sem] Option.isSome_some Option.isSome_none Bool.or_true Bool.true_or List.isEmpty_nil List.isEmpty_cons Bool.and_false Bool.false_and
def Uz (h:j8)(i:Nat)(x:Option qa):Option qq:=match x with
 |some (.aC vs)=>fU h vs[i]?
 |_=>En
@[go_sem] theorem jo9 {i:Nat}{vs:List qa}:Uz h i (I (.aC vs))=fU h vs[i]?:=rfl
@[go_sem] theorem j7s {i:Nat}{x:qh}:za p xc h0 al e h (.extract x i)=Uz h i (zd e x):=by
 simp only[za,zi,Uz]
 cases zd e x with
 |none=>rfl
 |some v=>cases v<;>rfl
def UA (op:UnOp)(h:j8)(x:Option qa):Option qq:=match x with
 |some v=>fU h (wv op v)
 |none=>En
@[go_sem] theorem zgm {op:UnOp}{v:qa}:UA op h (I v)=fU h (wv op v):=rfl
@[go_sem] theorem zkz {op:UnOp}{x:qh}:za p xc h0 al e h (.un op x)=UA op h (zd e x):=by
 simp only[za,zi,UA]
 cases zd e x<;>rfl
@[go_sem] theorem zj8 {b:Bool}:wv .not (.bool b)=I (.bool (!b)):=rfl
@[go_sem] theorem zjm {k:IntKind}{n:Int}:wv .neg (.int k n)=I (.int k (j9 k (0-n))):=rfl
def UB (neq:Bool)(h:j8)(x y:Option qa):Option qq:=match x,y with
 |some (.bool a),I (.bool b)=>val h (.bool (bif neq then !(a == b)else a == b))
 |_,_=>En
@[go_sem] theorem j8y {neq a b:Bool}:UB neq h (I (.bool a)) (I (.bool b))=I ⟨.bool (bif neq then !(a == b)else a == b),E1,En,h⟩:=rfl
@[go_sem] theorem zks {neq:Bool}{x y:qh}:za p xc h0 al e h (.beq neq x y)=UB neq h (zd e x) (zd e y):=by
 simp only[za,zi,UB]
 cases zd e x with
 |none=>rfl
 |some v=>cases v<;>cases zd e y<;>rfl
def UC (f:Fn)(h:j8)(a b:Option (List qa)):Option qq:=match a,b with
 |some a,I b=>val h (.fn f a b)
 |_,_=>En
@[go_sem] theorem jtr {f:Fn}{a b:List qa}:UC f h (I a) (I b)=I ⟨.fn f a b,E1,En,h⟩:=rfl
@[go_sem] theorem zib {f:Fn}{a b:List qh}:za p xc h0 al e h (.fS f a b)=UC f h (fC e a) (fC e b):=by
 simp only[za,zi,UC]
 cases fC e a<;>cases fC e b<;>rfl
def Gg (f:qa→qa→Option qa)(h:j8)(l:Option (List qa)):Option qq:=match l with
 |some (v::vs)=>fU h (nh f v vs)
 |_=>En
@[go_sem] theorem zio {f:qa→qa→Option qa}{v:qa}{vs:List qa}:Gg f h (I (v::vs))=fU h (nh f v vs):=rfl
@[go_sem] theorem zky {l:List qh}:za p xc h0 al e h (.mx l)=Gg max2 h (fC e l):=by
 simp only[za,zi,Gg]
 cases fC e l with
 |none=>rfl
 |some vs=>cases vs<;>rfl
@[go_sem] theorem zkx {l:List qh}:za p xc h0 al e h (.mn l)=Gg min2 h (fC e l):=by
 simp only[za,zi,Gg]
 cases fC e l with
 |none=>rfl
 |some vs=>cases vs<;>rfl
def UD (f:qa→qa→Option qa)(x:Option qa)(l:List qa):Option qa:=match x with
 |some z=>nh f z l
 |none=>En
@[go_sem] theorem jxm {f:qa→qa→Option qa}{x:qa}{l:List qa}:UD f (I x) l=nh f x l:=rfl
@[go_sem] theorem j8a {f:qa→qa→Option qa}{x:qa}:nh f x []=I x:=rfl
@[go_sem] theorem jxd {f:qa→qa→Option qa}{x y:qa}{l:List qa}:nh f x (y::l)=UD f (f x y) l:=by
 simp only[nh,UD];rfl
@[go_sem] theorem zhx {k:IntKind}{x y:Int}:max2 (.int k x) (.int k y)=I (.int k (max x y)):=by
 simp only[max2,decide_true,cT]
 congr 2
 by_cases h:y > x
 ·rw[if_pos h];omega
 ·rw[if_neg h];omega
@[go_sem] theorem zdy {k:IntKind}{x y:Int}:min2 (.int k x) (.int k y)=I (.int k (min x y)):=by
 simp only[min2,decide_true,cT]
 congr 2
 by_cases h:y<x
 ·rw[if_pos h];omega
 ·rw[if_neg h];omega
def UE (k:Nat)(neq:Bool)(h:j8)(x:Option qa):Option qq:=match k,x with
  |0,I (.list n _ _)=>val h (.bool (bif neq then !n else n))
  |0,I (.ms ..)=>val h (.bool neq)
  |1,I .bN=>val h (.bool (!neq))
  |1,I (.ptr ..)=>val h (.bool neq)
  |1,I (.ah ..)=>val h (.bool neq)
  |2,I .bM=>val h (.bool (!neq))
  |2,I (.map ..)=>val h (.bool neq)
  |3,I .bX=>val h (.bool (!neq))
  |3,I (.fn ..)=>val h (.bool neq)
  |_,_=>En
@[go_sem] theorem zjb {k:Nat}{neq:Bool}{x:qh}:za p xc h0 al e h (.eO k neq x)=UE k neq h (zd e x):=rfl
@[go_sem] theorem j5g {neq n:Bool}{z:Nat}{xs:List qa}:UE 0 neq h (I (.list n z xs))=I ⟨.bool (bif neq then !n else n),E1,En,h⟩:=rfl
@[go_sem] theorem j86 {n:Nat}{k:IntKind}{i:Int}:below n (.int k i)=E3:=rfl
@[go_sem] theorem jxh {n:Nat}{b:Bool}:below n (.bool b)=E3:=rfl
@[go_sem] theorem j7a {n:Nat}{s:List UInt8}:below n (.str s)=E3:=rfl
@[go_sem] theorem jzf {n:Nat}{b:Bool}{z:Nat}{xs:List qa}:below n (.list b z xs)=zw n xs:=by simp only[below]
@[go_sem] theorem j7e {n:Nat}{xs:List qa}:below n (.agg xs)=zw n xs:=by simp only[below]
@[go_sem] theorem j85 {n:Nat}{xs:List qa}:below n (.aC xs)=zw n xs:=by simp only[below]
@[go_sem] theorem j7j {n b o:Nat}:below n (.ptr b o)=decide (b<n):=by simp only[below,uv]
@[go_sem] theorem j7y {n b:Nat}:below n (.map b)=decide (b<n):=by simp only[below,uv]
@[go_sem] theorem zeo {n k:Nat}{a b:List qa}:below n (.fn (.func k) a b)=(zw n a&&zw n b):=by simp only[below]
@[go_sem] theorem j27 {n:Nat}:zw n []=E3:=by simp only[zw]
@[go_sem] theorem q5r {n:Nat}{x:qa}{xs:List qa}:zw n (x::xs)=(below n x&&zw n xs):=by simp only[zw]
@[go_sem] theorem j4j {n:Nat}{i:Int}:below n (kw i)=E3:=rfl
@[go_sem] theorem j1t {n z:Nat}{l:Option (List Int)}:below n (sl z kw l)=E3:=ur fun _=>rfl
theorem qv9 {n:Nat}{f:α→qa}(hf:∀x,below n (f x)=E3):∀l:List α,zw n (l.map f)=E3
 | []=>rfl
 |x::l=>by rw[List.map_cons,q5r,hf,qv9 hf l];rfl
@[go_sem] theorem jvz {n:Nat}{l:List Int}:zw n (l.map kw)=E3:=qv9 (fun _=>rfl) l
@[go_sem] theorem zir {k:IntKind}{i:Int}:fT h (.int k i)=I (.int k i):=rfl
@[go_sem] theorem zdo {b:Bool}:fT h (.bool b)=I (.bool b):=rfl
@[go_sem] theorem zjk {s:List UInt8}:fT h (.str s)=I (.str s):=rfl
@[go_sem] theorem zb6 {b:Bool}{z:Nat}{xs:List qa}:fT h (.list b z xs)=I (.list b z xs):=rfl
@[go_sem] theorem js5 {z:Nat}{f:α→qa}{l:Option (List α)}:fT h (sl z f l)=I (sl z f l):=by cases l<;>rfl
@[go_sem] theorem zex:kT h []=I []:=rfl
@[go_sem] theorem j7h {v:qa}{vs:List qa}:kT h (v::vs)=oV (fT h v) (kT h vs):=by
 simp only[kT,oV]
 cases fT h v with
 |none=>rfl
 |some x=>cases kT h vs<;>rfl
def Nb (l:Option (List qa)):Option qa:=match l with
 |some xs=>I (.agg xs)
 |none=>En
@[go_sem] theorem j9b {xs:List qa}:Nb (I xs)=I (.agg xs):=rfl
@[go_sem] theorem UF {cs:List qa}:aB h (.agg cs)=Nb (kT h cs):=by
 simp only[aB,Nb]
 cases kT h cs<;>rfl
@[go_sem] theorem zab {k:IntKind}{i:Int}:aB h (.int k i)=I (.int k i):=rfl
@[go_sem] theorem j7q {b:Bool}:aB h (.bool b)=I (.bool b):=rfl
@[go_sem] theorem zfg {s:List UInt8}:aB h (.str s)=I (.str s):=rfl
@[go_sem] theorem j71 {b:Bool}{z:Nat}{xs:List qa}:aB h (.list b z xs)=I (.list b z xs):=rfl
@[go_sem] theorem zjg {z:Nat}{f:α→qa}{l:Option (List α)}:aB h (sl z f l)=I (sl z f l):=by cases l<;>rfl
def UG (l:Option (List qa)):Option qa:=match l with
 |some xs=>I (.aC xs)
 |none=>En
@[go_sem] theorem j9c {xs:List qa}:UG (I xs)=I (.aC xs):=rfl
@[go_sem] theorem zb4 {cs:List qa}:aB h (.aC cs)=UG (aB.bj h cs):=by
 simp only[aB,UG]
 cases aB.bj h cs<;>rfl
@[go_sem] theorem zh4:aB.bj h []=I []:=rfl
@[go_sem] theorem zh3 {cs vs:List qa}:aB.bj h (.agg cs::vs)=oV (Nb (kT h cs)) (aB.bj h vs):=by
 rw[aB.bj]
 cases kT h cs with
 |none=>rfl
 |some x=>cases aB.bj h vs<;>rfl
theorem Gh {v:qa}{vs:List qa}(hv:v.isAgg=E1):aB.bj h (v::vs)=oV (fT h v) (aB.bj h vs):=by
 have:∀cs,v≠.agg cs:=fun cs hc=>by rw[hc]at hv;cases hv
 rw[aB.bj]
 ·cases fT h v with
  |none=>rfl
  |some x=>cases aB.bj h vs<;>rfl
 ·exact this
@[go_sem] theorem zcq {k:IntKind}{i:Int}{vs:List qa}:aB.bj h (.int k i::vs)=oV (I (.int k i)) (aB.bj h vs):=Gh rfl
@[go_sem] theorem j60 {b:Bool}{vs:List qa}:aB.bj h (.bool b::vs)=oV (I (.bool b)) (aB.bj h vs):=Gh rfl
@[go_sem] theorem zf1 {s:List UInt8}{vs:List qa}:aB.bj h (.str s::vs)=oV (I (.str s)) (aB.bj h vs):=Gh rfl
@[go_sem] theorem j8n {b:Bool}{z:Nat}{xs vs:List qa}:aB.bj h (.list b z xs::vs)=oV (I (.list b z xs)) (aB.bj h vs):=Gh rfl
@[go_sem] theorem zjf {z:Nat}{f:α→qa}{l:Option (List α)}{vs:List qa}:aB.bj h (sl z f l::vs)=oV (I (sl z f l)) (aB.bj h vs):=by
 rw[Gh (by cases l<;>rfl),js5]
attribute [go_sem] List.contains_cons List.contains_nil
@[go_sem] theorem zi8 {a b:Nat}:(a == b)=decide (a=b):=by
 by_cases pz:a=b<;>simp[pz]
def Gi (agg:Bool)(c:Option (qa×Bool))(vs:Option (List qa)):Option (qa×Bool):=match vs,agg with
 |some vs,E3=>I (.agg vs,E1)
 |some _,E1=>c
 |none,_=>En
@[go_sem] theorem j72 {c:Option (qa×Bool)}{vs:List qa}:Gi E3 c (I vs)=I (.agg vs,E1):=rfl
@[go_sem] theorem j8w {c:Option (qa×Bool)}{vs:List qa}:Gi E1 c (I vs)=c:=rfl
def Nc (agg:Bool)(o n:Nat)(cs:Option (List (qa×Bool))):Option (qa×Bool):=match cs with
 |some cs=>Gi agg cs[o]? (y9 cs o n)
 |none=>En
@[go_sem] theorem j3s {agg:Bool}{o n:Nat}{cs:List (qa×Bool)}:Nc agg o n (I cs)=Gi agg cs[o]? (y9 cs o n):=rfl
def UH (agg:Bool)(n:Nat)(h:j8)(x:Option (qa×Bool)):Option (qa×Bool):=match x with
 |some (.ptr b o,_)=>Nc agg o n (yl h b)
 |_=>En
@[go_sem] theorem j7x {agg:Bool}{n b o:Nat}{w:Bool}:UH agg n h (I (.ptr b o,w))=Nc agg o n (yl h b):=rfl
@[go_sem] theorem jnz {t n:Nat}{agg:Bool}:tT ⟨e,h⟩ (.cell t agg n)=UH agg n h (yd t e):=by
 simp only[tT,UH]
 cases yd t e with
 |none=>rfl
 |some x=>
  obtain⟨v,w⟩:=x
  cases v with
  |ptr b o=>
   simp only[Nc]
   cases yl h b with
   |none=>rfl
   |some cs=>
    simp only[Gi]
    cases y9 cs o n with
    |none=>rfl
    |some vs=>cases agg with
     |true=>rfl
     |false=>simp only[cond_false];cases cs[o]?<;>rfl
  |_=>rfl
theorem ky {k:Nat}{args:List qa}{v v':qa}{o:Bool}(hp:p.cm k=En)(hc:zg p xc k args []=I (v,o,h))(hz:aB h v=I v')(hv:below 0 v'=E3):jz p xc k args=I (v',o&&v.cu):=by
 unfold jz
 rw[hp]
 simp only[hc,hz,lM,hv,cT]
end
end Go.Abs
