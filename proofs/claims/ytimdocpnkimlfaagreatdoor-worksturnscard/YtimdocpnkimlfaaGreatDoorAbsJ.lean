/- Equations of the executor, second part. -/
import Derived.Test.YtimdocpnkimlfaaGreatDoorAbsI
set_option linter.unusedVariables false
set_option linter.unusedSimpArgs false
open Option renaming some→I,none→En
open Bool renaming false→Es,true→Ga
open Nat renaming beq→E9,ble→Gd,blt→Ge,eq_of_beq_eq_true→Gf
namespace Go.Abs
section
variable {p:jz}{xc:XC}{h0:Nat}{al:Option (List Nat)}{e:Env}{h:qh}{α:Type}
attribute [go_sem] List.getElem?_cons_zero List.getElem?_cons_succ List.getElem?_nil List.set_cons_zero List.set_cons_succ List.set_nil List.cons_append List.replicate_zero List.replicate_succ List.map_cons List.map_nil List.all_cons List.all_nil List.drop_zero List.drop_succ_cons List.take_zero List.take_succ_cons List.drop_nil List.take_nil Bool.and_true Bool.true_and Bool.or_false Bool.false_or Bool.and_self List.headD_cons List.foldl_cons List.foldl_nil List.flatMap_cons List.flatMap_nil
@[go_sem] theorem zkv {k n}:ql (.int k n)=Ga:=rfl
@[go_sem] theorem zjz {b}:ql (.bool b)=Ga:=rfl
@[go_sem] theorem zk8 {s}:ql (.str s)=Ga:=rfl
@[go_sem] theorem zkj {b z xs}:ql (.list b z xs)=Ga:=rfl
@[go_sem] theorem zlk {b o n}:ql (.ms b o n)=Ga:=rfl
@[go_sem] theorem zk5 {b o}:ql (.ptr b o)=Ga:=rfl
@[go_sem] theorem zkl {b}:ql (.map b)=Ga:=rfl
@[go_sem] theorem j8s:ql .b9=Ga:=rfl
@[go_sem] theorem zao:ql .b8=Ga:=rfl
@[go_sem] theorem zax:ql .cx=Ga:=rfl
@[go_sem] theorem zlq {f a b}:ql (.fn f a b)=Ga:=rfl
@[go_sem] theorem zlp {z:Nat}{f:α→AVal}{l}:ql (sl z f l)=Ga:=by cases l<;>rfl
@[go_sem] theorem zjn {cs}:AVal.flat (.agg cs)=cs:=rfl
@[go_sem] theorem zi6 {k n}:AVal.flat (.int k n)=[.int k n]:=rfl
@[go_sem] theorem zaj {b}:AVal.flat (.bool b)=[.bool b]:=rfl
@[go_sem] theorem zfn {s}:AVal.flat (.str s)=[.str s]:=rfl
@[go_sem] theorem j99 {b z xs}:AVal.flat (.list b z xs)=[.list b z xs]:=rfl
@[go_sem] theorem zke {z:Nat}{f:α→AVal}{l}:AVal.flat (sl z f l)=[sl z f l]:=by cases l<;>rfl
@[go_sem] theorem zh0 {b o}:AVal.flat (.ptr b o)=[.ptr b o]:=rfl
@[go_sem] theorem za0 {b}:AVal.flat (.map b)=[.map b]:=rfl
@[go_sem] theorem zjy {f a b}:AVal.flat (.fn f a b)=[.fn f a b]:=rfl
@[go_sem] theorem zkb {b o n}:AVal.flat (.ms b o n)=[.ms b o n]:=rfl
@[go_sem] theorem Lm {a b}:E9 a b=decide (a=b):=by
 cases h:E9 a b with
 |true=>have:=Gf h;simp[this]
 |false=>
  have:a≠b:=fun hh=>by subst hh;simp at h
  simp[this]
@[go_sem] theorem ny {a b}:Gd a b=decide (a≤b):=by
 cases h:Gd a b with
 |true=>have:=Nat.le_of_ble_eq_true h;simp[this]
 |false=>
  have:¬a≤b:=fun hh=>by rw[Nat.ble_eq_true_of_le hh]at h;cases h
  simp[this]
@[go_sem] theorem vj {a b}:Ge a b=decide (a<b):=by
 show Gd (a+1) b=_
 rw[ny];rfl
@[go_sem] theorem zau {b}:j9 h0 En b=Ga:=rfl
@[go_sem] theorem zkh:oG []=Es:=rfl
@[go_sem] theorem zc4 {k l}:oG (k::l)=decide (1000≤k):=by simp only[oG,ny]
@[go_sem] theorem zhe {k b l}:zX h0 (k::l) b=cond (decide (k<2000)) (decide (b=k-1000)&&decide (b<h0)) (cond (decide (k<4000)) (decide (b=h0+(k-2000))) (decide (b<h0))):=by
 have e:∀x y:Nat,E9 x y=decide (x=y):=fun x y=>by
  cases h:E9 x y with
  |true=>rw[Gf h];simp
  |false=>
   have:x≠y:=fun e=>by rw[e,Nat.beq_refl]at h;cases h
   simp[this]
 simp only[zX,vj,e]
@[go_sem] theorem j1e {b l}:j9 h0 (I l) b=cond (oG l) (zX h0 l b) (decide (b<h0)||l.contains (b-h0)):=by simp only[j9,vj]
def iz (r:Option qh)(v:AVal):Option bm:=match r with
 |some h'=>I ⟨v,Es,En,h'⟩
 |none=>En
@[go_sem] theorem j9a {v}:iz (I h) v=I ⟨v,Es,En,h⟩:=rfl
@[go_sem] theorem zap {h0 r es}:Ll h0 r h Ga (I es)=iz (aS h0 h r (.map es)) (.map (h0+r)):=rfl
def Sv (n:Nat)(h:qh)(b:Option bg)(x:bg):Option qh:=match b with
 |some .hole=>I (h.set n x)
 |_=>En
@[go_sem] theorem j8t {n x}:Sv n h (I .hole) x=I (h.set n x):=rfl
@[go_sem] theorem zaa {r x}:aS h0 h r x=Sv (h0+r) h h[h0+r]? x:=by
 unfold aS Sv;rfl
def cq (b:Bool)(r:Option bm):Option bm:=match b with
 |true=>r
 |false=>En
@[go_sem] theorem zhl {r}:cq Ga r=r:=rfl
@[go_sem] theorem zju {r z}:qf p xc h0 al e h (.alloc r z)=cq (z.all ql) (iz (aS h0 h r (.cells (cellsOf z))) (.ptr (h0+r) 0)):=by
 simp only[qf,qp,cq]
 cases z.all ql with
 |false=>rfl
 |true=>simp only[cond_true,iz];cases aS h0 h r (.cells (cellsOf z))<;>rfl
def Sw (n:Nat)(h:qh)(x:Option AVal):Option bm:=match x with
 |some v=>cq (E9 v.flat.length n&&v.flat.all ql) (I ⟨.ai v,Es,En,h⟩)
 |none=>En
@[go_sem] theorem j6m {n v}:Sw n h (I v)=cq (E9 v.flat.length n&&v.flat.all ql) (I ⟨.ai v,Es,En,h⟩):=rfl
@[go_sem] theorem zk3 {n x}:qf p xc h0 al e h (.oE n x)=Sw n h (qi e x):=by
 simp only[qf,qo,Sw]
 cases qi e x with
 |none=>rfl
 |some v=>
  simp only[cq]
  cases (E9 v.flat.length n&&v.flat.all ql)<;>rfl
def Sx (h0 r n:Nat)(h:qh)(x:Option AVal):Option bm:=match x with
 |some v=>cq (E9 v.flat.length n&&v.flat.all ql) (iz (aS h0 h r (.cells (cellsOf v.flat))) (.ptr (h0+r) 0))
 |none=>En
@[go_sem] theorem j9d {r n v}:Sx h0 r n h (I v)=cq (E9 v.flat.length n&&v.flat.all ql) (iz (aS h0 h r (.cells (cellsOf v.flat))) (.ptr (h0+r) 0)):=rfl
@[go_sem] theorem zlb {r n x}:qf p xc h0 al e h (.box r n x)=Sx h0 r n h (qi e x):=by
 simp only[qf,qp,Sx]
 cases qi e x with
 |none=>rfl
 |some v=>
  simp only[cq,iz]
  cases (E9 v.flat.length n&&v.flat.all ql)with
  |false=>rfl
  |true=>simp only[cond_true];cases aS h0 h r (.cells (cellsOf v.flat))<;>rfl
@[go_sem] theorem zjx {r}:qf p xc h0 al e h (.eu r)=iz (aS h0 h r (.map [])) (.map (h0+r)):=by
 simp only[qf,qp,iz]
 cases aS h0 h r (.map [])<;>rfl
@[go_sem] theorem jyp:cellsOf []=[]:=rfl
@[go_sem] theorem jva {v vs}:cellsOf (v::vs)=(v,Es)::cellsOf vs:=rfl
def vk (agg:Bool)(h:qh)(r:Option AVal):Option bm:=match r with
 |some v=>bif Bool.xor agg v.isAgg then En else val h (.ai v)
 |none=>En
def DT (agg:Bool)(off n:Nat)(h:qh)(x:Option AVal):Option bm:=match x with
 |some (.ptr b o)=>val h (.ptr b (o+off))
 |some (.ai (.agg cs))=>vk agg h (part agg cs off n)
 |some (.di b bN o)=>val h (.di b bN (o+off))
 |_=>En
@[go_sem] theorem jp5 {agg off n b v o}:DT agg off n h (I (.di b v o))=I ⟨.di b v (o+off),Es,En,h⟩:=rfl
@[go_sem] theorem jp2 {agg off n b o}:DT agg off n h (I (.ptr b o))=I ⟨.ptr b (o+off),Es,En,h⟩:=rfl
@[go_sem] theorem jmx {agg off n cs}:DT agg off n h (I (.ai (.agg cs)))=vk agg h (part agg cs off n):=rfl
@[go_sem] theorem jxu {agg off n x}:qf p xc h0 al e h (.fieldAddr agg off n x)=DT agg off n h (qi e x):=by
 simp only[qf,qo,DT]
 cases qi e x with
 |none=>rfl
 |some v=>cases v with
  |ai v=>cases v<;>rfl
  |_=>rfl
def zkn (v:AVal):Prop:=v.isAgg=Es
theorem zak {v}(hv:v.isAgg=Es):vk Es h (I v)=I ⟨.ai v,Es,En,h⟩:=by simp[vk,hv,val]
@[go_sem] theorem j8z {k n}:vk Es h (I (.int k n))=I ⟨.ai (.int k n),Es,En,h⟩:=rfl
@[go_sem] theorem j82 {s}:vk Es h (I (.str s))=I ⟨.ai (.str s),Es,En,h⟩:=rfl
@[go_sem] theorem j51 {b}:vk Es h (I (.bool b))=I ⟨.ai (.bool b),Es,En,h⟩:=rfl
@[go_sem] theorem zhd {z:Nat}{f:α→AVal}{l}:vk Es h (I (sl z f l))=I ⟨.ai (sl z f l),Es,En,h⟩:=by cases l<;>rfl
@[go_sem] theorem j83 {cs}:vk Ga h (I (.agg cs))=I ⟨.ai (.agg cs),Es,En,h⟩:=rfl
@[go_sem] theorem zfm {cs off n}:part Es cs off n=cs[off]?:=rfl
def Sy (b:Bool)(cs:List AVal)(off n:Nat):Option AVal:=match b with
 |true=>I (.agg ((cs.drop off).take n))
 |false=>En
@[go_sem] theorem j3t {cs off n}:Sy Ga cs off n=I (.agg ((cs.drop off).take n)):=rfl
@[go_sem] theorem zf9 {cs off n}:part Ga cs off n=Sy (decide (off+n≤cs.length)) cs off n:=by
 simp only[part,Sy,cond_true,ny]
 cases decide (off+n≤cs.length)<;>rfl
@[go_sem] theorem zi9 {z:Nat}{f:α→AVal}{l}:y5 h0 al Es 1 h (I (.ai (sl z f l)))=I ⟨sl z f l,Es,En,h⟩:=by cases l<;>rfl
def Sz (h:qh)(cs:List AVal)(b:Bool):Option bm:=match b with
 |true=>I ⟨.agg cs,Es,En,h⟩
 |false=>En
@[go_sem] theorem j9z {cs}:Sz h cs Ga=I ⟨.agg cs,Es,En,h⟩:=rfl
@[go_sem] theorem j55 {n cs}:y5 h0 al Ga n h (I (.ai (.agg cs)))=Sz h cs (decide (cs.length=n)):=by
 unfold Sz
 by_cases hn:cs.length=n
 ·rw[jcv hn];simp[hn]
 ·simp[y5,AVal.isAgg,AVal.flat,hn,Lm]
def GV (agg:Bool)(h:qh)(vs:Option (List AVal)):Option bm:=match vs with
 |some vs=>bif agg then val h (.agg vs)else(match vs with
  | [v]=>val h v
  |_=>En)
 |none=>En
@[go_sem] theorem zhb {vs}:GV Ga h (I vs)=I ⟨.agg vs,Es,En,h⟩:=rfl
@[go_sem] theorem zie {v}:GV Es h (I [v])=I ⟨v,Es,En,h⟩:=rfl
def SA (b:Option bg):Option (List (AVal×Bool)):=match b with
 |some (.cells cs)=>I cs
 |_=>En
@[go_sem] theorem jxp {cs}:SA (I (.cells cs))=I cs:=rfl
@[go_sem] theorem q52 {b}:jt h b=SA h[b]?:=by unfold jt SA;rfl
def SC (b:Bool)(cs:List (AVal×Bool))(off n:Nat):Option (List AVal):=match b with
 |true=>I (((cs.drop off).take n).map (·.1))
 |false=>En
@[go_sem] theorem ze1 {cs off n}:SC Ga cs off n=I (((cs.drop off).take n).map (·.1)):=rfl
@[go_sem] theorem jum {cs off n}:zf cs off n=SC (decide (off+n≤cs.length)) cs off n:=by
 simp only[zf,SC,ny]
 cases decide (off+n≤cs.length)<;>rfl
def SD (agg:Bool)(o n:Nat)(h:qh)(cs:Option (List (AVal×Bool))):Option bm:=match cs with
 |some cs=>GV agg h (zf cs o n)
 |none=>En
@[go_sem] theorem j9r {agg o n cs}:SD agg o n h (I cs)=GV agg h (zf cs o n):=rfl
@[go_sem] theorem j81 {agg n b o}:y5 h0 al agg n h (I (.ptr b o))=cq (j9 h0 al b) (SD agg o n h (jt h b)):=by
 simp only[y5,cq,SD,GV]
 cases j9 h0 al b with
 |false=>rfl
 |true=>
  simp only[cond_true]
  cases jt h b with
  |none=>rfl
  |some cs=>simp only[];cases zf cs o n<;>rfl
def Ln (r:Option qh)(v:AVal)(w:Bool):Option bm:=match r with
 |some h'=>I ⟨v,w,En,h'⟩
 |none=>En
@[go_sem] theorem j5f {v w}:Ln (I h) v w=I ⟨v,w,En,h⟩:=rfl
def Lp (h:qh)(b o:Nat)(cs:List (AVal×Bool))(x:Option (AVal×Bool)):Option bm:=match x with
 |some (v,w)=>Ln (jr h b (.cells (cs.set o (v,Es)))) v w
 |none=>En
@[go_sem] theorem j0r {b o cs v w}:Lp h b o cs (I (v,w))=Ln (jr h b (.cells (cs.set o (v,Es)))) v w:=rfl
def Lq (h:qh)(b o:Nat)(cs:Option (List (AVal×Bool))):Option bm:=match cs with
 |some cs=>Lp h b o cs cs[o]?
 |none=>En
@[go_sem] theorem jy7 {b o cs}:Lq h b o (I cs)=Lp h b o cs cs[o]?:=rfl
def SE (h0:Nat)(al:Option (List Nat))(off:Option Nat)(h:qh)(x:Option AVal):Option bm:=match x with
 |some (.ptr b o)=>cq (j9 h0 al b&&uH off o) (Lq h b o (jt h b))
 |_=>En
@[go_sem] theorem jp0 {off b o}:SE h0 al off h (I (.ptr b o))=cq (j9 h0 al b&&uH off o) (Lq h b o (jt h b)):=rfl
@[go_sem] theorem j7d {o}:uH En o=Ga:=rfl
@[go_sem] theorem jzi {a o}:uH (I a) o=decide (a=o):=by simp only[uH,Lm]
@[go_sem] theorem j25 {off x}:qf p xc h0 al e h (.cA off x)=SE h0 al off h (qi e x):=by
 simp only[qf,qp,SE]
 cases qi e x with
 |none=>rfl
 |some v=>cases v with
  |ptr b o=>
   simp only[cq,Lq,Lp,Ln]
   cases (j9 h0 al b&&uH off o)with
   |false=>rfl
   |true=>
    simp only[cond_true]
    cases jt h b with
    |none=>rfl
    |some cs=>
     simp only[]
     cases cs[o]? with
     |none=>rfl
     |some c=>
      obtain⟨v,w⟩:=c
      simp only[]
      cases jr h b (.cells (cs.set o (v,Es)))<;>rfl
  |_=>rfl
def SF (b:Bool)(n:Nat)(x:bg)(h:qh):Option qh:=match b with
 |true=>I (h.set n x)
 |false=>En
@[go_sem] theorem j9u {n x}:SF Ga n x h=I (h.set n x):=rfl
@[go_sem] theorem zat {b x}:jr h b x=SF (decide (b<h.length)) b x h:=by
 simp only[jr,SF,vj]
 cases decide (b<h.length)<;>rfl
def SG (b:Bool)(cs:List (AVal×Bool))(off:Nat)(vs:List AVal):Option (List (AVal×Bool)):=match b with
 |true=>I (cs.take off++vs.map (·,Es)++cs.drop (off+vs.length))
 |false=>En
@[go_sem] theorem zg8 {cs off vs}:SG Ga cs off vs=I (cs.take off++vs.map (·,Es)++cs.drop (off+vs.length)):=rfl
@[go_sem] theorem jp4 {cs off vs}:jo cs off vs=SG (decide (off+vs.length≤cs.length)&&vs.all ql) cs off vs:=by
 simp only[jo,SG,ny]
 cases (decide (off+vs.length≤cs.length)&&vs.all ql)<;>rfl
def zlu (e:Env)(x:js):Option Nat:=zj e x
def Lr (t:Nat)(x:Option (AVal×Bool)):Option Nat:=match x with
 |some (_,Ga)=>I t
 |_=>En
@[go_sem] theorem zar {t v}:Lr t (I (v,Ga))=I t:=rfl
@[go_sem] theorem j2l {t v}:Lr t (I (v,Es))=En:=rfl
@[go_sem] theorem j8l {t}:zj e (.tmp t)=Lr t (ji t e):=by
 simp only[zj,Lr];rfl
@[go_sem] theorem jx8 {v}:zj e (.const v)=En:=rfl
def Ls (h:qh)(b:Nat)(cs:Option (List (AVal×Bool))):Option bm:=match cs with
 |some eE=>iz (jr h b (.cells eE)) .undef
 |none=>En
@[go_sem] theorem jv6 {b cs}:Ls h b (I cs)=iz (jr h b (.cells cs)) .undef:=rfl
def Lt (t:Nat)(r:Option qh):Option bm:=match r with
 |some h'=>I ⟨.undef,Es,I t,h'⟩
 |none=>En
@[go_sem] theorem j8b {t}:Lt t (I h)=I ⟨.undef,Es,I t,h⟩:=rfl
def GX (n:Nat)(h:qh)(b o:Nat)(v:AVal)(own:Option Nat)(cs:Option (List (AVal×Bool))):Option bm:=match cs,own with
 |some cs,I t=>cq (E9 n 1&&v.cS&&Ge o cs.length) (Lt t (jr h b (.cells (cs.set o (v,Ga)))))
 |some cs,En=>cq (E9 v.flat.length n) (Ls h b (jo cs o v.flat))
 |none,_=>En
@[go_sem] theorem j6x {n b o t v cs}:GX n h b o v (I t) (I cs)=cq (E9 n 1&&v.cS&&Ge o cs.length) (Lt t (jr h b (.cells (cs.set o (v,Ga))))):=rfl
@[go_sem] theorem ju4 {n b o v cs}:GX n h b o v En (I cs)=cq (E9 v.flat.length n) (Ls h b (jo cs o v.flat)):=rfl
def SH (h0:Nat)(al:Option (List Nat))(n:Nat)(h:qh)(own:Option Nat)(a x:Option AVal):Option bm:=match a,x with
 |some (.ptr b o),I v=>cq (j9 h0 al b) (GX n h b o v own (jt h b))
 |_,_=>En
@[go_sem] theorem jz3 {n b o own v}:SH h0 al n h own (I (.ptr b o)) (I v)=cq (j9 h0 al b) (GX n h b o v own (jt h b)):=rfl
@[go_sem] theorem zj0 {n a x}:qf p xc h0 al e h (.store n a x)=SH h0 al n h (zj e x) (qi e a) (qi e x):=by
 simp only[qf,qp,SH]
 cases qi e a with
 |none=>rfl
 |some va=>
  cases va with
  |ptr b o=>
   cases qi e x with
   |none=>rfl
   |some v=>
    simp only[cq]
    cases j9 h0 al b with
    |false=>rfl
    |true=>
     simp only[cond_true]
     cases jt h b with
     |none=>rfl
     |some cs=>
      simp only[GX]
      cases zj e x with
      |none=>
       simp only[cq,Ls,iz]
       cases E9 v.flat.length n with
       |false=>rfl
       |true=>
        simp only[cond_true]
        cases jo cs o v.flat with
        |none=>rfl
        |some eE=>simp only[];cases jr h b (.cells eE)<;>rfl
      |some t=>
       simp only[cq,Lt]
       cases (E9 n 1&&v.cS&&Ge o cs.length)with
       |false=>rfl
       |true=>simp only[cond_true];cases jr h b (.cells (cs.set o (v,Ga)))<;>rfl
  |_=>rfl
@[go_sem] theorem jye {b z xs}:AVal.cS (.list b z xs)=Ga:=rfl
@[go_sem] theorem j9p {z:Nat}{f:α→AVal}{l}:AVal.cS (sl z f l)=Ga:=by cases l<;>rfl
def Lu (b:Bool)(off:Nat)(vs:List AVal)(l:Option (List (Nat×List AVal))):Option (List (Nat×List AVal)):=match b,l with
 |true,I r=>I ((off,vs)::r)
 |_,_=>En
@[go_sem] theorem jxx {off vs r}:Lu Ga off vs (I r)=I ((off,vs)::r):=rfl
def SI (x:Option AVal)(off n:Nat)(l:Option (List (Nat×List AVal))):Option (List (Nat×List AVal)):=match x with
 |some v=>Lu (E9 v.flat.length n&&v.flat.all ql) off v.flat l
 |none=>En
@[go_sem] theorem jxn {v off n l}:SI (I v) off n l=Lu (E9 v.flat.length n&&v.flat.all ql) off v.flat l:=rfl
@[go_sem] theorem jp3:kn e []=I []:=rfl
@[go_sem] theorem jnv {off n x l}:kn e ((off,n,x)::l)=SI (qi e x) off n (kn e l):=by
 simp only[kn,SI,Lu]
 cases qi e x with
 |none=>rfl
 |some v=>simp only[];cases (E9 v.flat.length n&&v.flat.all ql)<;>cases kn e l<;>rfl
def kC (h:qh)(zero:List AVal)(ps:Option (List (Nat×List AVal))):Option bm:=match ps with
 |some ps=>ol h (jU zero ps)
 |none=>En
where ol (h:qh) (r:Option (List AVal)):Option bm:=match r with
 |some cs=>I ⟨.agg cs,Es,En,h⟩
 |none=>En
@[go_sem] theorem j1k {zero ps}:kC h zero (I ps)=kC.ol h (jU zero ps):=rfl
@[go_sem] theorem jz5 {cs}:kC.ol h (I cs)=I ⟨.agg cs,Es,En,h⟩:=rfl
@[go_sem] theorem zkd {zero ps}:qf p xc h0 al e h (.build zero ps)=kC h zero (kn e ps):=by
 simp only[qf,qo,kC,kC.ol]
 cases kn e ps with
 |none=>rfl
 |some ps=>simp only[];cases jU zero ps<;>rfl
@[go_sem] theorem j8o {cs}:jU cs []=I cs:=rfl
def SJ (b:Bool)(cs:List AVal)(off:Nat)(vs:List AVal)(l:List (Nat×List AVal)):Option (List AVal):=match b with
 |true=>jU (cs.take off++vs++cs.drop (off+vs.length)) l
 |false=>En
@[go_sem] theorem j0h {cs off vs l}:SJ Ga cs off vs l=jU (cs.take off++vs++cs.drop (off+vs.length)) l:=rfl
@[go_sem] theorem j78 {cs off vs l}:jU cs ((off,vs)::l)=SJ (decide (off+vs.length≤cs.length)) cs off vs l:=by
 simp only[jU,SJ,ny]
 cases decide (off+vs.length≤cs.length)<;>rfl
def gJ (x:Option AVal)(i sz:Nat)(l:Option (List (Nat×AVal))):Option (List (Nat×AVal)):=match x with
 |some v=>kY (E9 v.flat.length sz&&v.flat.all ql) i v l
 |none=>En
where kY (b:Bool) (i:Nat) (v:AVal) (l:Option (List (Nat×AVal))):Option (List (Nat×AVal)):=match b,l with
 |true,I r=>I ((i,v)::r)
 |_,_=>En
@[go_sem] theorem jyf {v i sz l}:gJ (I v) i sz l=gJ.kY (E9 v.flat.length sz&&v.flat.all ql) i v l:=rfl
@[go_sem] theorem jxv {v i r}:gJ.kY Ga i v (I r)=I ((i,v)::r):=rfl
@[go_sem] theorem jqa {sz}:yc e sz []=I []:=rfl
@[go_sem] theorem job {sz i x l}:yc e sz ((i,x)::l)=gJ (qi e x) i sz (yc e sz l):=by
 simp only[yc,gJ,gJ.kY]
 cases qi e x with
 |none=>rfl
 |some v=>simp only[];cases (E9 v.flat.length sz&&v.flat.all ql)<;>cases yc e sz l<;>rfl
@[go_sem] theorem j8j {xs}:lI xs []=I xs:=rfl
def SK (b:Bool)(xs:List AVal)(i:Nat)(v:AVal)(l:List (Nat×AVal)):Option (List AVal):=match b with
 |true=>lI (xs.set i v) l
 |false=>En
@[go_sem] theorem jxl {xs i v l}:SK Ga xs i v l=lI (xs.set i v) l:=rfl
@[go_sem] theorem j5a {xs i v l}:lI xs ((i,v)::l)=SK (decide (i<xs.length)) xs i v l:=by
 simp only[lI,SK,vj]
 cases decide (i<xs.length)<;>rfl
def gK (sz:Nat)(h:qh)(xs:List AVal)(ps:Option (List (Nat×AVal))):Option bm:=match ps with
 |some ps=>la sz h (lI xs ps)
 |none=>En
where la (sz:Nat) (h:qh) (r:Option (List AVal)):Option bm:=match r with
 |some xs=>I ⟨.list Es sz xs,Ga,En,h⟩
 |none=>En
@[go_sem] theorem jxk {sz xs ps}:gK sz h xs (I ps)=gK.la sz h (lI xs ps):=rfl
@[go_sem] theorem jyl {sz xs}:gK.la sz h (I xs)=I ⟨.list Es sz xs,Ga,En,h⟩:=rfl
@[go_sem] theorem jqk {sz len zero ps}:qf p xc h0 al e h (.buildSlice sz len zero ps)=gK sz h (List.replicate len (bif E9 sz 1 then zero.headD .undef else .agg zero)) (yc e sz ps):=by
 simp only[qf,qo,gK,gK.la]
 cases yc e sz ps with
 |none=>rfl
 |some ps=>simp only[];cases lI (List.replicate len (bif E9 sz 1 then zero.headD .undef else .agg zero)) ps<;>rfl
def bS (sz bytes:Nat)(h:qh)(own:Option Nat)(x y:Option AVal):Option bm:=match x,y with
 |some (.list n dj xs),I vy=>cq (n||own.isSome) (iA sz bytes h own n dj xs (zq sz vy))
 |_,_=>En
where iA (sz bytes:Nat) (h:qh) (own:Option Nat) (n:Bool) (dj:Nat) (xs:List AVal) (ys:Option (List AVal)):Option bm:=match ys with
 |some ys=>cq ((E9 sz dj||(xs.isEmpty&&n))&&Gd (xs.length+ys.length) 1073741824&&Gd bytes 4096&&Ge 0 sz) (I ⟨qA n sz xs ys,Ga,own,h⟩)
 |none=>En
@[go_sem] theorem j9w {sz bytes own n dj xs vy}:bS sz bytes h own (I (.list n dj xs)) (I vy)=cq (n||own.isSome) (bS.iA sz bytes h own n dj xs (zq sz vy)):=rfl
@[go_sem] theorem zal {sz bytes own n dj xs ys}:bS.iA sz bytes h own n dj xs (I ys)=cq ((E9 sz dj||(xs.isEmpty&&n))&&Gd (xs.length+ys.length) 1073741824&&Gd bytes 4096&&Ge 0 sz) (I ⟨qA n sz xs ys,Ga,own,h⟩):=rfl
@[go_sem] theorem zi2 {sz bytes x y}:qf p xc h0 al e h (.append En sz bytes x y)=bS sz bytes h (zj e x) (qi e x) (qi e y):=by
 simp only[qf,qo,bS,bS.iA]
 cases qi e x with
 |none=>rfl
 |some vx=>
  cases vx with
  |list n dj xs=>
   cases qi e y with
   |none=>rfl
   |some vy=>
    simp only[cq]
    cases (n||(zj e x).isSome)with
    |false=>rfl
    |true=>
     simp only[cond_true]
     cases zq sz vy with
     |none=>rfl
     |some ys=>simp only[];cases ((E9 sz dj||(xs.isEmpty&&n))&&Gd (xs.length+ys.length) 1073741824&&Gd bytes 4096&&Ge 0 sz)<;>rfl
  |_=>cases qi e y<;>rfl
@[go_sem] theorem SL {z:Nat}{f:α→AVal}{l}:zq z (sl z f l)=I ((l.getD []).map f):=by
 cases l<;>simp[zq,sl]
@[go_sem] theorem zfb {z b xs}:zq z (.list b z xs)=I xs:=by simp[zq]
@[go_sem] theorem zj6 {z z' b}:zq z (.list b z' [])=I []:=by simp[zq]
@[go_sem] theorem jyd {z xs ys}:qA Es z xs ys=.list Es z (xs++ys):=rfl
@[go_sem] theorem j3j {z b xs y ys}:qA b z xs (y::ys)=.list Es z (xs++y::ys):=by cases b<;>rfl
attribute [go_sem] Option.isSome_some Option.isSome_none Bool.or_true Bool.true_or List.isEmpty_nil List.isEmpty_cons Bool.and_false Bool.false_and
def SN (h:qh)(i:Nat)(x:Option AVal):Option bm:=match x with
 |some (.aI vs)=>gB h vs[i]?
 |_=>En
@[go_sem] theorem jwz {i vs}:SN h i (I (.aI vs))=gB h vs[i]?:=rfl
@[go_sem] theorem j8w {i x}:qf p xc h0 al e h (.extract x i)=SN h i (qi e x):=by
 simp only[qf,qo,SN]
 cases qi e x with
 |none=>rfl
 |some v=>cases v<;>rfl
def SP (op:UnOp)(h:qh)(x:Option AVal):Option bm:=match x with
 |some v=>gB h (xF op v)
 |none=>En
@[go_sem] theorem zet {op v}:SP op h (I v)=gB h (xF op v):=rfl
@[go_sem] theorem zly {op x}:qf p xc h0 al e h (.un op x)=SP op h (qi e x):=by
 simp only[qf,qo,SP]
 cases qi e x<;>rfl
@[go_sem] theorem zk7 {b}:xF .not (.bool b)=I (.bool (!b)):=rfl
@[go_sem] theorem zkk {k n}:xF .neg (.int k n)=I (.int k (qe k (0-n))):=rfl
def SQ (neq:Bool)(h:qh)(x y:Option AVal):Option bm:=match x,y with
 |some (.bool a),I (.bool b)=>val h (.bool (bif neq then !(a == b)else a == b))
 |_,_=>En
@[go_sem] theorem zad {neq a b}:SQ neq h (I (.bool a)) (I (.bool b))=I ⟨.bool (bif neq then !(a == b)else a == b),Es,En,h⟩:=rfl
@[go_sem] theorem zla {neq x y}:qf p xc h0 al e h (.beq neq x y)=SQ neq h (qi e x) (qi e y):=by
 simp only[qf,qo,SQ]
 cases qi e x with
 |none=>rfl
 |some v=>cases v<;>cases qi e y<;>rfl
def SR (f:Fn)(h:qh)(a b:Option (List AVal)):Option bm:=match a,b with
 |some a,I b=>val h (.fn f a b)
 |_,_=>En
@[go_sem] theorem js5 {f a b}:SR f h (I a) (I b)=I ⟨.fn f a b,Es,En,h⟩:=rfl
@[go_sem] theorem zfc {f a b}:qf p xc h0 al e h (.gA f a b)=SR f h (kz e a) (kz e b):=by
 simp only[qf,qo,SR]
 cases kz e a<;>cases kz e b<;>rfl
def GY (f:AVal→AVal→Option AVal)(h:qh)(l:Option (List AVal)):Option bm:=match l with
 |some (v::vs)=>gB h (nU f v vs)
 |_=>En
@[go_sem] theorem zcs {f v vs}:GY f h (I (v::vs))=gB h (nU f v vs):=rfl
@[go_sem] theorem zlv {l}:qf p xc h0 al e h (.mx l)=GY max2 h (kz e l):=by
 simp only[qf,qo,GY]
 cases kz e l with
 |none=>rfl
 |some vs=>cases vs<;>rfl
@[go_sem] theorem zlw {l}:qf p xc h0 al e h (.mn l)=GY min2 h (kz e l):=by
 simp only[qf,qo,GY]
 cases kz e l with
 |none=>rfl
 |some vs=>cases vs<;>rfl
def SS (f:AVal→AVal→Option AVal)(x:Option AVal)(l:List AVal):Option AVal:=match x with
 |some z=>nU f z l
 |none=>En
@[go_sem] theorem j6z {f x l}:SS f (I x) l=nU f x l:=rfl
@[go_sem] theorem zai {f x}:nU f x []=I x:=rfl
@[go_sem] theorem jy5 {f x y l}:nU f x (y::l)=SS f (f x y) l:=by
 simp only[nU,SS];rfl
@[go_sem] theorem zga {k x y}:max2 (.int k x) (.int k y)=I (.int k (max x y)):=by
 simp only[max2,decide_true,cond_true]
 congr 2
 by_cases h:y > x
 ·rw[if_pos h];omega
 ·rw[if_neg h];omega
@[go_sem] theorem zbm {k x y}:min2 (.int k x) (.int k y)=I (.int k (min x y)):=by
 simp only[min2,decide_true,cond_true]
 congr 2
 by_cases h:y<x
 ·rw[if_pos h];omega
 ·rw[if_neg h];omega
def SU (k:Nat)(neq:Bool)(h:qh)(x:Option AVal):Option bm:=match k,x with
  |0,I (.list n _ _)=>val h (.bool (bif neq then !n else n))
  |0,I (.ms ..)=>val h (.bool neq)
  |1,I .b9=>val h (.bool (!neq))
  |1,I (.ptr ..)=>val h (.bool neq)
  |1,I (.ai ..)=>val h (.bool neq)
  |2,I .b8=>val h (.bool (!neq))
  |2,I (.map ..)=>val h (.bool neq)
  |3,I .cx=>val h (.bool (!neq))
  |3,I (.fn ..)=>val h (.bool neq)
  |_,_=>En
@[go_sem] theorem zjv {k neq x}:qf p xc h0 al e h (.ft k neq x)=SU k neq h (qi e x):=rfl
@[go_sem] theorem j2y {neq n z xs}:SU 0 neq h (I (.list n z xs))=I ⟨.bool (bif neq then !n else n),Es,En,h⟩:=rfl
@[go_sem] theorem j8m {n k i}:below n (.int k i)=Ga:=rfl
@[go_sem] theorem j77 {n b}:below n (.bool b)=Ga:=rfl
@[go_sem] theorem j95 {n s}:below n (.str s)=Ga:=rfl
@[go_sem] theorem j57 {n b z xs}:below n (.list b z xs)=qw n xs:=by simp only[below]
@[go_sem] theorem j87 {n xs}:below n (.agg xs)=qw n xs:=by simp only[below]
@[go_sem] theorem j86 {n xs}:below n (.aI xs)=qw n xs:=by simp only[below]
@[go_sem] theorem j9x {n b o}:below n (.ptr b o)=decide (b<n):=by simp only[below,vj]
@[go_sem] theorem j9l {n b}:below n (.map b)=decide (b<n):=by simp only[below,vj]
@[go_sem] theorem zix {n k a b}:below n (.fn (.func k) a b)=(qw n a&&qw n b):=by simp only[below]
@[go_sem] theorem j11 {n}:qw n []=Ga:=by simp only[qw]
@[go_sem] theorem q6b {n x xs}:qw n (x::xs)=(below n x&&qw n xs):=by simp only[qw]
@[go_sem] theorem j67 {n i}:below n (zy i)=Ga:=rfl
@[go_sem] theorem j4b {n z l}:below n (sl z zy l)=Ga:=vi fun _=>rfl
theorem qu8 {n f}(hf:∀x,below n (f x)=Ga):∀l:List α,qw n (l.map f)=Ga
 | []=>rfl
 |x::l=>by rw[List.map_cons,q6b,hf,qu8 hf l];rfl
@[go_sem] theorem jya {n:Nat}{l:List Int}:qw n (l.map zy)=Ga:=qu8 (fun _=>rfl) l
@[go_sem] theorem zjq {k i}:kq h (.int k i)=I (.int k i):=rfl
@[go_sem] theorem zfh {b}:kq h (.bool b)=I (.bool b):=rfl
@[go_sem] theorem zkf {s}:kq h (.str s)=I (.str s):=rfl
@[go_sem] theorem zjd {b z xs}:kq h (.list b z xs)=I (.list b z xs):=rfl
@[go_sem] theorem jvx {z:Nat}{f:α→AVal}{l}:kq h (sl z f l)=I (sl z f l):=by cases l<;>rfl
@[go_sem] theorem zgq:lJ h []=I []:=rfl
@[go_sem] theorem zaq {v vs}:lJ h (v::vs)=pI (kq h v) (lJ h vs):=by
 simp only[lJ,pI]
 cases kq h v with
 |none=>rfl
 |some x=>cases lJ h vs<;>rfl
def Lw (l:Option (List AVal)):Option AVal:=match l with
 |some xs=>I (.agg xs)
 |none=>En
@[go_sem] theorem j92 {xs}:Lw (I xs)=I (.agg xs):=rfl
@[go_sem] theorem SV {cs}:aJ h (.agg cs)=Lw (lJ h cs):=by
 simp only[aJ,Lw]
 cases lJ h cs<;>rfl
@[go_sem] theorem zc9 {k i}:aJ h (.int k i)=I (.int k i):=rfl
@[go_sem] theorem j80 {b}:aJ h (.bool b)=I (.bool b):=rfl
@[go_sem] theorem zbd {s}:aJ h (.str s)=I (.str s):=rfl
@[go_sem] theorem j8r {b z xs}:aJ h (.list b z xs)=I (.list b z xs):=rfl
@[go_sem] theorem zj3 {z:Nat}{f:α→AVal}{l}:aJ h (sl z f l)=I (sl z f l):=by cases l<;>rfl
def SW (l:Option (List AVal)):Option AVal:=match l with
 |some xs=>I (.aI xs)
 |none=>En
@[go_sem] theorem j8p {xs}:SW (I xs)=I (.aI xs):=rfl
@[go_sem] theorem zja {cs}:aJ h (.aI cs)=SW (aJ.bH h cs):=by
 simp only[aJ,SW]
 cases aJ.bH h cs<;>rfl
@[go_sem] theorem zii:aJ.bH h []=I []:=rfl
@[go_sem] theorem zd3 {cs vs}:aJ.bH h (.agg cs::vs)=pI (Lw (lJ h cs)) (aJ.bH h vs):=by
 rw[aJ.bH]
 cases lJ h cs with
 |none=>rfl
 |some x=>cases aJ.bH h vs<;>rfl
theorem GZ {v vs}(hv:v.isAgg=Es):aJ.bH h (v::vs)=pI (kq h v) (aJ.bH h vs):=by
 have:∀cs,v≠.agg cs:=fun cs hc=>by rw[hc]at hv;cases hv
 rw[aJ.bH]
 ·cases kq h v with
  |none=>rfl
  |some x=>cases aJ.bH h vs<;>rfl
 ·exact this
@[go_sem] theorem zcc {k i vs}:aJ.bH h (.int k i::vs)=pI (I (.int k i)) (aJ.bH h vs):=GZ rfl
@[go_sem] theorem j9m {b vs}:aJ.bH h (.bool b::vs)=pI (I (.bool b)) (aJ.bH h vs):=GZ rfl
@[go_sem] theorem zgp {s vs}:aJ.bH h (.str s::vs)=pI (I (.str s)) (aJ.bH h vs):=GZ rfl
@[go_sem] theorem zaf {b z xs vs}:aJ.bH h (.list b z xs::vs)=pI (I (.list b z xs)) (aJ.bH h vs):=GZ rfl
@[go_sem] theorem zka {z:Nat}{f:α→AVal}{l vs}:aJ.bH h (sl z f l::vs)=pI (I (sl z f l)) (aJ.bH h vs):=by
 rw[GZ (by cases l<;>rfl),jvx]
attribute [go_sem] List.contains_cons List.contains_nil
@[go_sem] theorem zjs {a b:Nat}:(a == b)=decide (a=b):=by
 by_cases qD:a=b<;>simp[qD]
def G0 (agg:Bool)(c:Option (AVal×Bool))(vs:Option (List AVal)):Option (AVal×Bool):=match vs,agg with
 |some vs,Ga=>I (.agg vs,Es)
 |some _,Es=>c
 |none,_=>En
@[go_sem] theorem j9c {c vs}:G0 Ga c (I vs)=I (.agg vs,Es):=rfl
@[go_sem] theorem j8u {c vs}:G0 Es c (I vs)=c:=rfl
def Lx (agg:Bool)(o n:Nat)(cs:Option (List (AVal×Bool))):Option (AVal×Bool):=match cs with
 |some cs=>G0 agg cs[o]? (zf cs o n)
 |none=>En
@[go_sem] theorem jy9 {agg o n cs}:Lx agg o n (I cs)=G0 agg cs[o]? (zf cs o n):=rfl
def SX (agg:Bool)(n:Nat)(h:qh)(x:Option (AVal×Bool)):Option (AVal×Bool):=match x with
 |some (.ptr b o,_)=>Lx agg o n (jt h b)
 |_=>En
@[go_sem] theorem j90 {agg n b o w}:SX agg n h (I (.ptr b o,w))=Lx agg o n (jt h b):=rfl
@[go_sem] theorem jpx {t n agg}:uI ⟨e,h⟩ (.cell t agg n)=SX agg n h (ji t e):=by
 simp only[uI,SX]
 cases ji t e with
 |none=>rfl
 |some x=>
  obtain⟨v,w⟩:=x
  cases v with
  |ptr b o=>
   simp only[Lx]
   cases jt h b with
   |none=>rfl
   |some cs=>
    simp only[G0]
    cases zf cs o n with
    |none=>rfl
    |some vs=>cases agg with
     |true=>rfl
     |false=>simp only[cond_false];cases cs[o]?<;>rfl
  |_=>rfl
theorem zx {k args v v' o}(hp:p.cO k=En)(hc:qm p xc k args []=I (v,o,h))(hz:aJ h v=I v')(hv:below 0 v'=Ga):qc p xc k args=I (v',o&&v.cS):=by
 unfold qc
 rw[hp]
 simp only[hc,hz,mF,hv,cond_true]
end
end Go.Abs
