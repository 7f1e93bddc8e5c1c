/- Equations of the executor, second part. -/
import Derived.Test.YtimdocpnkimlfaaGreatDoorAbsI
set_option linter.unusedVariables false
set_option linter.unusedSimpArgs false
open Option renaming some→I,none→En
open Bool renaming false→E3,true→Gc
open Nat renaming beq→Ga,ble→Gd,blt→Gg,eq_of_beq_eq_true→Gh
namespace Go.Abs
section
variable {p:j8}{xc:XC}{h0:Nat}{al:Option (List Nat)}{e:Env}{h:qh}{α:Type}
attribute [go_sem] List.getElem?_cons_zero List.getElem?_cons_succ List.getElem?_nil List.set_cons_zero List.set_cons_succ List.set_nil List.cons_append List.replicate_zero List.replicate_succ List.map_cons List.map_nil List.all_cons List.all_nil List.drop_zero List.drop_succ_cons List.take_zero List.take_succ_cons List.drop_nil List.take_nil Bool.and_true Bool.true_and Bool.or_false Bool.false_or Bool.and_self List.headD_cons List.foldl_cons List.foldl_nil List.flatMap_cons List.flatMap_nil
@[go_sem] theorem zl8 {k n}:qk (.int k n)=Gc:=rfl
@[go_sem] theorem zku {b}:qk (.bool b)=Gc:=rfl
@[go_sem] theorem zlz {s}:qk (.str s)=Gc:=rfl
@[go_sem] theorem zkz {b z xs}:qk (.list b z xs)=Gc:=rfl
@[go_sem] theorem zmd {b o n}:qk (.ms b o n)=Gc:=rfl
@[go_sem] theorem zmb {b o}:qk (.ptr b o)=Gc:=rfl
@[go_sem] theorem zl2 {b}:qk (.map b)=Gc:=rfl
@[go_sem] theorem za0:qk .bZ=Gc:=rfl
@[go_sem] theorem j82:qk .bX=Gc:=rfl
@[go_sem] theorem zf6:qk .cr=Gc:=rfl
@[go_sem] theorem zme {f a b}:qk (.fn f a b)=Gc:=rfl
@[go_sem] theorem zmo {z:Nat}{f:α→AVal}{l}:qk (sl z f l)=Gc:=by cases l<;>rfl
@[go_sem] theorem zdp {cs}:AVal.flat (.agg cs)=cs:=rfl
@[go_sem] theorem zjp {k n}:AVal.flat (.int k n)=[.int k n]:=rfl
@[go_sem] theorem j89 {b}:AVal.flat (.bool b)=[.bool b]:=rfl
@[go_sem] theorem zev {s}:AVal.flat (.str s)=[.str s]:=rfl
@[go_sem] theorem j99 {b z xs}:AVal.flat (.list b z xs)=[.list b z xs]:=rfl
@[go_sem] theorem zkw {z:Nat}{f:α→AVal}{l}:AVal.flat (sl z f l)=[sl z f l]:=by cases l<;>rfl
@[go_sem] theorem zdw {b o}:AVal.flat (.ptr b o)=[.ptr b o]:=rfl
@[go_sem] theorem zil {b}:AVal.flat (.map b)=[.map b]:=rfl
@[go_sem] theorem zk2 {f a b}:AVal.flat (.fn f a b)=[.fn f a b]:=rfl
@[go_sem] theorem zlh {b o n}:AVal.flat (.ms b o n)=[.ms b o n]:=rfl
@[go_sem] theorem LR {a b}:Ga a b=decide (a=b):=by
 cases h:Ga a b with
 |true=>have:=Gh h;simp[this]
 |false=>
  have:a≠b:=fun hh=>by subst hh;simp at h
  simp[this]
@[go_sem] theorem nB {a b}:Gd a b=decide (a≤b):=by
 cases h:Gd a b with
 |true=>have:=Nat.le_of_ble_eq_true h;simp[this]
 |false=>
  have:¬a≤b:=fun hh=>by rw[Nat.ble_eq_true_of_le hh]at h;cases h
  simp[this]
@[go_sem] theorem vD {a b}:Gg a b=decide (a<b):=by
 show Gd (a+1) b=_
 rw[nB];rfl
@[go_sem] theorem zaf {b}:zc h0 En b=Gc:=rfl
@[go_sem] theorem zlb:oI []=E3:=rfl
@[go_sem] theorem zhl {k l}:oI (k::l)=decide (1000≤k):=by simp only[oI,nB]
@[go_sem] theorem zhh {k b l}:Ac h0 (k::l) b=cond (decide (k<2000)) (decide (b=k-1000)&&decide (b<h0)) (cond (decide (k<4000)) (decide (b=h0+(k-2000))) (decide (b<h0))):=by
 have e:∀x y:Nat,Ga x y=decide (x=y):=fun x y=>by
  cases h:Ga x y with
  |true=>rw[Gh h];simp
  |false=>
   have:x≠y:=fun e=>by rw[e,Nat.beq_refl]at h;cases h
   simp[this]
 simp only[Ac,vD,e]
@[go_sem] theorem j8x {b l}:zc h0 (I l) b=cond (oI l) (Ac h0 l b) (decide (b<h0)||l.contains (b-h0)):=by simp only[zc,vD]
def fp (r:Option qh)(v:AVal):Option bh:=match r with
 |some h'=>I ⟨v,E3,En,h'⟩
 |none=>En
@[go_sem] theorem zap {v}:fp (I h) v=I ⟨v,E3,En,h⟩:=rfl
@[go_sem] theorem j86 {h0 r es}:LQ h0 r h Gc (I es)=fp (aK h0 h r (.map es)) (.map (h0+r)):=rfl
def SU (n:Nat)(h:qh)(b:Option bg)(x:bg):Option qh:=match b with
 |some .hole=>I (h.set n x)
 |_=>En
@[go_sem] theorem zak {n x}:SU n h (I .hole) x=I (h.set n x):=rfl
@[go_sem] theorem j90 {r x}:aK h0 h r x=SU (h0+r) h h[h0+r]? x:=by
 unfold aK SU;rfl
def b3 (b:Bool)(r:Option bh):Option bh:=match b with
 |true=>r
 |false=>En
@[go_sem] theorem zca {r}:b3 Gc r=r:=rfl
@[go_sem] theorem zlk {r z}:qf p xc h0 al e h (.alloc r z)=b3 (z.all qk) (fp (aK h0 h r (.cells (cellsOf z))) (.ptr (h0+r) 0)):=by
 simp only[qf,qp,b3]
 cases z.all qk with
 |false=>rfl
 |true=>simp only[cond_true,fp];cases aK h0 h r (.cells (cellsOf z))<;>rfl
def SV (n:Nat)(h:qh)(x:Option AVal):Option bh:=match x with
 |some v=>b3 (Ga v.flat.length n&&v.flat.all qk) (I ⟨.ah v,E3,En,h⟩)
 |none=>En
@[go_sem] theorem j0m {n v}:SV n h (I v)=b3 (Ga v.flat.length n&&v.flat.all qk) (I ⟨.ah v,E3,En,h⟩):=rfl
@[go_sem] theorem zlr {n x}:qf p xc h0 al e h (.oH n x)=SV n h (qi e x):=by
 simp only[qf,qo,SV]
 cases qi e x with
 |none=>rfl
 |some v=>
  simp only[b3]
  cases (Ga v.flat.length n&&v.flat.all qk)<;>rfl
def SW (h0 r n:Nat)(h:qh)(x:Option AVal):Option bh:=match x with
 |some v=>b3 (Ga v.flat.length n&&v.flat.all qk) (fp (aK h0 h r (.cells (cellsOf v.flat))) (.ptr (h0+r) 0))
 |none=>En
@[go_sem] theorem j91 {r n v}:SW h0 r n h (I v)=b3 (Ga v.flat.length n&&v.flat.all qk) (fp (aK h0 h r (.cells (cellsOf v.flat))) (.ptr (h0+r) 0)):=rfl
@[go_sem] theorem zmt {r n x}:qf p xc h0 al e h (.box r n x)=SW h0 r n h (qi e x):=by
 simp only[qf,qp,SW]
 cases qi e x with
 |none=>rfl
 |some v=>
  simp only[b3,fp]
  cases (Ga v.flat.length n&&v.flat.all qk)with
  |false=>rfl
  |true=>simp only[cond_true];cases aK h0 h r (.cells (cellsOf v.flat))<;>rfl
@[go_sem] theorem q8o {r}:qf p xc h0 al e h (.dN r)=fp (aK h0 h r (.map [])) (.map (h0+r)):=by
 simp only[qf,qp,fp]
 cases aK h0 h r (.map [])<;>rfl
@[go_sem] theorem jzp:cellsOf []=[]:=rfl
@[go_sem] theorem jva {v vs}:cellsOf (v::vs)=(v,E3)::cellsOf vs:=rfl
def pM (agg:Bool)(h:qh)(r:Option AVal):Option bh:=match r with
 |some v=>bif Bool.xor agg v.isAgg then En else val h (.ah v)
 |none=>En
def D5 (agg:Bool)(off n:Nat)(h:qh)(x:Option AVal):Option bh:=match x with
 |some (.ptr b o)=>val h (.ptr b (o+off))
 |some (.ah (.agg cs))=>pM agg h (part agg cs off n)
 |some (.dH b bJ o)=>val h (.dH b bJ (o+off))
 |_=>En
@[go_sem] theorem jrf {agg off n b v o}:D5 agg off n h (I (.dH b v o))=I ⟨.dH b v (o+off),E3,En,h⟩:=rfl
@[go_sem] theorem jrg {agg off n b o}:D5 agg off n h (I (.ptr b o))=I ⟨.ptr b (o+off),E3,En,h⟩:=rfl
@[go_sem] theorem jn1 {agg off n cs}:D5 agg off n h (I (.ah (.agg cs)))=pM agg h (part agg cs off n):=rfl
@[go_sem] theorem jzm {agg off n x}:qf p xc h0 al e h (.fieldAddr agg off n x)=D5 agg off n h (qi e x):=by
 simp only[qf,qo,D5]
 cases qi e x with
 |none=>rfl
 |some v=>cases v with
  |ah v=>cases v<;>rfl
  |_=>rfl
def zl5 (v:AVal):Prop:=v.isAgg=E3
theorem j9v {v}(hv:v.isAgg=E3):pM E3 h (I v)=I ⟨.ah v,E3,En,h⟩:=by simp[pM,hv,val]
@[go_sem] theorem zbb {k n}:pM E3 h (I (.int k n))=I ⟨.ah (.int k n),E3,En,h⟩:=rfl
@[go_sem] theorem zaj {s}:pM E3 h (I (.str s))=I ⟨.ah (.str s),E3,En,h⟩:=rfl
@[go_sem] theorem j0g {b}:pM E3 h (I (.bool b))=I ⟨.ah (.bool b),E3,En,h⟩:=rfl
@[go_sem] theorem zbr {z:Nat}{f:α→AVal}{l}:pM E3 h (I (sl z f l))=I ⟨.ah (sl z f l),E3,En,h⟩:=by cases l<;>rfl
@[go_sem] theorem zay {cs}:pM Gc h (I (.agg cs))=I ⟨.ah (.agg cs),E3,En,h⟩:=rfl
@[go_sem] theorem zdl {cs off n}:part E3 cs off n=cs[off]?:=rfl
def SX (b:Bool)(cs:List AVal)(off n:Nat):Option AVal:=match b with
 |true=>I (.agg ((cs.drop off).take n))
 |false=>En
@[go_sem] theorem j0q {cs off n}:SX Gc cs off n=I (.agg ((cs.drop off).take n)):=rfl
@[go_sem] theorem zgj {cs off n}:part Gc cs off n=SX (decide (off+n≤cs.length)) cs off n:=by
 simp only[part,SX,cond_true,nB]
 cases decide (off+n≤cs.length)<;>rfl
@[go_sem] theorem zkj {z:Nat}{f:α→AVal}{l}:gi h0 al E3 1 h (I (.ah (sl z f l)))=I ⟨sl z f l,E3,En,h⟩:=by cases l<;>rfl
def SY (h:qh)(cs:List AVal)(b:Bool):Option bh:=match b with
 |true=>I ⟨.agg cs,E3,En,h⟩
 |false=>En
@[go_sem] theorem zaa {cs}:SY h cs Gc=I ⟨.agg cs,E3,En,h⟩:=rfl
@[go_sem] theorem j6f {n cs}:gi h0 al Gc n h (I (.ah (.agg cs)))=SY h cs (decide (cs.length=n)):=by
 unfold SY
 by_cases hn:cs.length=n
 ·rw[jfe hn];simp[hn]
 ·simp[gi,AVal.isAgg,AVal.flat,hn,LR]
def GY (agg:Bool)(h:qh)(vs:Option (List AVal)):Option bh:=match vs with
 |some vs=>bif agg then val h (.agg vs)else(match vs with
  | [v]=>val h v
  |_=>En)
 |none=>En
@[go_sem] theorem zj6 {vs}:GY Gc h (I vs)=I ⟨.agg vs,E3,En,h⟩:=rfl
@[go_sem] theorem zfs {v}:GY E3 h (I [v])=I ⟨v,E3,En,h⟩:=rfl
def SZ (b:Option bg):Option (List (AVal×Bool)):=match b with
 |some (.cells cs)=>I cs
 |_=>En
@[go_sem] theorem jzo {cs}:SZ (I (.cells cs))=I cs:=rfl
@[go_sem] theorem q61 {b}:jw h b=SZ h[b]?:=by unfold jw SZ;rfl
def S0 (b:Bool)(cs:List (AVal×Bool))(off n:Nat):Option (List AVal):=match b with
 |true=>I (((cs.drop off).take n).map (·.1))
 |false=>En
@[go_sem] theorem ziz {cs off n}:S0 Gc cs off n=I (((cs.drop off).take n).map (·.1)):=rfl
@[go_sem] theorem jyq {cs off n}:zj cs off n=S0 (decide (off+n≤cs.length)) cs off n:=by
 simp only[zj,S0,nB]
 cases decide (off+n≤cs.length)<;>rfl
def S1 (agg:Bool)(o n:Nat)(h:qh)(cs:Option (List (AVal×Bool))):Option bh:=match cs with
 |some cs=>GY agg h (zj cs o n)
 |none=>En
@[go_sem] theorem zao {agg o n cs}:S1 agg o n h (I cs)=GY agg h (zj cs o n):=rfl
@[go_sem] theorem j9o {agg n b o}:gi h0 al agg n h (I (.ptr b o))=b3 (zc h0 al b) (S1 agg o n h (jw h b)):=by
 simp only[gi,b3,S1,GY]
 cases zc h0 al b with
 |false=>rfl
 |true=>
  simp only[cond_true]
  cases jw h b with
  |none=>rfl
  |some cs=>simp only[];cases zj cs o n<;>rfl
def LS (r:Option qh)(v:AVal)(w:Bool):Option bh:=match r with
 |some h'=>I ⟨v,w,En,h'⟩
 |none=>En
@[go_sem] theorem j63 {v w}:LS (I h) v w=I ⟨v,w,En,h⟩:=rfl
def LU (h:qh)(b o:Nat)(cs:List (AVal×Bool))(x:Option (AVal×Bool)):Option bh:=match x with
 |some (v,w)=>LS (jo h b (.cells (cs.set o (v,E3)))) v w
 |none=>En
@[go_sem] theorem j34 {b o cs v w}:LU h b o cs (I (v,w))=LS (jo h b (.cells (cs.set o (v,E3)))) v w:=rfl
def LV (h:qh)(b o:Nat)(cs:Option (List (AVal×Bool))):Option bh:=match cs with
 |some cs=>LU h b o cs cs[o]?
 |none=>En
@[go_sem] theorem j68 {b o cs}:LV h b o (I cs)=LU h b o cs cs[o]?:=rfl
def S2 (h0:Nat)(al:Option (List Nat))(off:Option Nat)(h:qh)(x:Option AVal):Option bh:=match x with
 |some (.ptr b o)=>b3 (zc h0 al b&&uY off o) (LV h b o (jw h b))
 |_=>En
@[go_sem] theorem jrs {off b o}:S2 h0 al off h (I (.ptr b o))=b3 (zc h0 al b&&uY off o) (LV h b o (jw h b)):=rfl
@[go_sem] theorem j1y {o}:uY En o=Gc:=rfl
@[go_sem] theorem j7v {a o}:uY (I a) o=decide (a=o):=by simp only[uY,LR]
@[go_sem] theorem j6q {off x}:qf p xc h0 al e h (.cy off x)=S2 h0 al off h (qi e x):=by
 simp only[qf,qp,S2]
 cases qi e x with
 |none=>rfl
 |some v=>cases v with
  |ptr b o=>
   simp only[b3,LV,LU,LS]
   cases (zc h0 al b&&uY off o)with
   |false=>rfl
   |true=>
    simp only[cond_true]
    cases jw h b with
    |none=>rfl
    |some cs=>
     simp only[]
     cases cs[o]? with
     |none=>rfl
     |some c=>
      obtain⟨v,w⟩:=c
      simp only[]
      cases jo h b (.cells (cs.set o (v,E3)))<;>rfl
  |_=>rfl
def S3 (b:Bool)(n:Nat)(x:bg)(h:qh):Option qh:=match b with
 |true=>I (h.set n x)
 |false=>En
@[go_sem] theorem zar {n x}:S3 Gc n x h=I (h.set n x):=rfl
@[go_sem] theorem j9q {b x}:jo h b x=S3 (decide (b<h.length)) b x h:=by
 simp only[jo,S3,vD]
 cases decide (b<h.length)<;>rfl
def S4 (b:Bool)(cs:List (AVal×Bool))(off:Nat)(vs:List AVal):Option (List (AVal×Bool)):=match b with
 |true=>I (cs.take off++vs.map (·,E3)++cs.drop (off+vs.length))
 |false=>En
@[go_sem] theorem zh1 {cs off vs}:S4 Gc cs off vs=I (cs.take off++vs.map (·,E3)++cs.drop (off+vs.length)):=rfl
@[go_sem] theorem jrq {cs off vs}:jr cs off vs=S4 (decide (off+vs.length≤cs.length)&&vs.all qk) cs off vs:=by
 simp only[jr,S4,nB]
 cases (decide (off+vs.length≤cs.length)&&vs.all qk)<;>rfl
def zmy (e:Env)(x:jt):Option Nat:=zq e x
def LW (t:Nat)(x:Option (AVal×Bool)):Option Nat:=match x with
 |some (_,Gc)=>I t
 |_=>En
@[go_sem] theorem za9 {t v}:LW t (I (v,Gc))=I t:=rfl
@[go_sem] theorem j1w {t v}:LW t (I (v,E3))=En:=rfl
@[go_sem] theorem j97 {t}:zq e (.tmp t)=LW t (jj t e):=by
 simp only[zq,LW];rfl
@[go_sem] theorem jy9 {v}:zq e (.const v)=En:=rfl
def LX (h:qh)(b:Nat)(cs:Option (List (AVal×Bool))):Option bh:=match cs with
 |some ez=>fp (jo h b (.cells ez)) .undef
 |none=>En
@[go_sem] theorem ju0 {b cs}:LX h b (I cs)=fp (jo h b (.cells cs)) .undef:=rfl
def LY (t:Nat)(r:Option qh):Option bh:=match r with
 |some h'=>I ⟨.undef,E3,I t,h'⟩
 |none=>En
@[go_sem] theorem j6e {t}:LY t (I h)=I ⟨.undef,E3,I t,h⟩:=rfl
def GZ (n:Nat)(h:qh)(b o:Nat)(v:AVal)(own:Option Nat)(cs:Option (List (AVal×Bool))):Option bh:=match cs,own with
 |some cs,I t=>b3 (Ga n 1&&v.cJ&&Gg o cs.length) (LY t (jo h b (.cells (cs.set o (v,Gc)))))
 |some cs,En=>b3 (Ga v.flat.length n) (LX h b (jr cs o v.flat))
 |none,_=>En
@[go_sem] theorem j0t {n b o t v cs}:GZ n h b o v (I t) (I cs)=b3 (Ga n 1&&v.cJ&&Gg o cs.length) (LY t (jo h b (.cells (cs.set o (v,Gc))))):=rfl
@[go_sem] theorem jyz {n b o v cs}:GZ n h b o v En (I cs)=b3 (Ga v.flat.length n) (LX h b (jr cs o v.flat)):=rfl
def S5 (h0:Nat)(al:Option (List Nat))(n:Nat)(h:qh)(own:Option Nat)(a x:Option AVal):Option bh:=match a,x with
 |some (.ptr b o),I v=>b3 (zc h0 al b) (GZ n h b o v own (jw h b))
 |_,_=>En
@[go_sem] theorem j3u {n b o own v}:S5 h0 al n h own (I (.ptr b o)) (I v)=b3 (zc h0 al b) (GZ n h b o v own (jw h b)):=rfl
@[go_sem] theorem zlj {n a x}:qf p xc h0 al e h (.store n a x)=S5 h0 al n h (zq e x) (qi e a) (qi e x):=by
 simp only[qf,qp,S5]
 cases qi e a with
 |none=>rfl
 |some va=>
  cases va with
  |ptr b o=>
   cases qi e x with
   |none=>rfl
   |some v=>
    simp only[b3]
    cases zc h0 al b with
    |false=>rfl
    |true=>
     simp only[cond_true]
     cases jw h b with
     |none=>rfl
     |some cs=>
      simp only[GZ]
      cases zq e x with
      |none=>
       simp only[b3,LX,fp]
       cases Ga v.flat.length n with
       |false=>rfl
       |true=>
        simp only[cond_true]
        cases jr cs o v.flat with
        |none=>rfl
        |some ez=>simp only[];cases jo h b (.cells ez)<;>rfl
      |some t=>
       simp only[b3,LY]
       cases (Ga n 1&&v.cJ&&Gg o cs.length)with
       |false=>rfl
       |true=>simp only[cond_true];cases jo h b (.cells (cs.set o (v,Gc)))<;>rfl
  |_=>rfl
@[go_sem] theorem jzi {b z xs}:AVal.cJ (.list b z xs)=Gc:=rfl
@[go_sem] theorem zbg {z:Nat}{f:α→AVal}{l}:AVal.cJ (sl z f l)=Gc:=by cases l<;>rfl
def LZ (b:Bool)(off:Nat)(vs:List AVal)(l:Option (List (Nat×List AVal))):Option (List (Nat×List AVal)):=match b,l with
 |true,I r=>I ((off,vs)::r)
 |_,_=>En
@[go_sem] theorem jzc {off vs r}:LZ Gc off vs (I r)=I ((off,vs)::r):=rfl
def S6 (x:Option AVal)(off n:Nat)(l:Option (List (Nat×List AVal))):Option (List (Nat×List AVal)):=match x with
 |some v=>LZ (Ga v.flat.length n&&v.flat.all qk) off v.flat l
 |none=>En
@[go_sem] theorem jy1 {v off n l}:S6 (I v) off n l=LZ (Ga v.flat.length n&&v.flat.all qk) off v.flat l:=rfl
@[go_sem] theorem jrm:kn e []=I []:=rfl
@[go_sem] theorem jq3 {off n x l}:kn e ((off,n,x)::l)=S6 (qi e x) off n (kn e l):=by
 simp only[kn,S6,LZ]
 cases qi e x with
 |none=>rfl
 |some v=>simp only[];cases (Ga v.flat.length n&&v.flat.all qk)<;>cases kn e l<;>rfl
def jZ (h:qh)(zero:List AVal)(ps:Option (List (Nat×List AVal))):Option bh:=match ps with
 |some ps=>ot h (jQ zero ps)
 |none=>En
where ot (h:qh) (r:Option (List AVal)):Option bh:=match r with
 |some cs=>I ⟨.agg cs,E3,En,h⟩
 |none=>En
@[go_sem] theorem j11 {zero ps}:jZ h zero (I ps)=jZ.ot h (jQ zero ps):=rfl
@[go_sem] theorem j6z {cs}:jZ.ot h (I cs)=I ⟨.agg cs,E3,En,h⟩:=rfl
@[go_sem] theorem zlf {zero ps}:qf p xc h0 al e h (.build zero ps)=jZ h zero (kn e ps):=by
 simp only[qf,qo,jZ,jZ.ot]
 cases kn e ps with
 |none=>rfl
 |some ps=>simp only[];cases jQ zero ps<;>rfl
@[go_sem] theorem j9h {cs}:jQ cs []=I cs:=rfl
def S7 (b:Bool)(cs:List AVal)(off:Nat)(vs:List AVal)(l:List (Nat×List AVal)):Option (List AVal):=match b with
 |true=>jQ (cs.take off++vs++cs.drop (off+vs.length)) l
 |false=>En
@[go_sem] theorem j03 {cs off vs l}:S7 Gc cs off vs l=jQ (cs.take off++vs++cs.drop (off+vs.length)) l:=rfl
@[go_sem] theorem j73 {cs off vs l}:jQ cs ((off,vs)::l)=S7 (decide (off+vs.length≤cs.length)) cs off vs l:=by
 simp only[jQ,S7,nB]
 cases decide (off+vs.length≤cs.length)<;>rfl
def gL (x:Option AVal)(i sz:Nat)(l:Option (List (Nat×AVal))):Option (List (Nat×AVal)):=match x with
 |some v=>kX (Ga v.flat.length sz&&v.flat.all qk) i v l
 |none=>En
where kX (b:Bool) (i:Nat) (v:AVal) (l:Option (List (Nat×AVal))):Option (List (Nat×AVal)):=match b,l with
 |true,I r=>I ((i,v)::r)
 |_,_=>En
@[go_sem] theorem jz3 {v i sz l}:gL (I v) i sz l=gL.kX (Ga v.flat.length sz&&v.flat.all qk) i v l:=rfl
@[go_sem] theorem jz7 {v i r}:gL.kX Gc i v (I r)=I ((i,v)::r):=rfl
@[go_sem] theorem jrj {sz}:ye e sz []=I []:=rfl
@[go_sem] theorem jpj {sz i x l}:ye e sz ((i,x)::l)=gL (qi e x) i sz (ye e sz l):=by
 simp only[ye,gL,gL.kX]
 cases qi e x with
 |none=>rfl
 |some v=>simp only[];cases (Ga v.flat.length sz&&v.flat.all qk)<;>cases ye e sz l<;>rfl
@[go_sem] theorem za7 {xs}:lE xs []=I xs:=rfl
def S8 (b:Bool)(xs:List AVal)(i:Nat)(v:AVal)(l:List (Nat×AVal)):Option (List AVal):=match b with
 |true=>lE (xs.set i v) l
 |false=>En
@[go_sem] theorem jza {xs i v l}:S8 Gc xs i v l=lE (xs.set i v) l:=rfl
@[go_sem] theorem j3p {xs i v l}:lE xs ((i,v)::l)=S8 (decide (i<xs.length)) xs i v l:=by
 simp only[lE,S8,vD]
 cases decide (i<xs.length)<;>rfl
def gM (sz:Nat)(h:qh)(xs:List AVal)(ps:Option (List (Nat×AVal))):Option bh:=match ps with
 |some ps=>kY sz h (lE xs ps)
 |none=>En
where kY (sz:Nat) (h:qh) (r:Option (List AVal)):Option bh:=match r with
 |some xs=>I ⟨.list E3 sz xs,Gc,En,h⟩
 |none=>En
@[go_sem] theorem jzq {sz xs ps}:gM sz h xs (I ps)=gM.kY sz h (lE xs ps):=rfl
@[go_sem] theorem jzw {sz xs}:gM.kY sz h (I xs)=I ⟨.list E3 sz xs,Gc,En,h⟩:=rfl
@[go_sem] theorem jxv {sz len zero ps}:qf p xc h0 al e h (.buildSlice sz len zero ps)=gM sz h (List.replicate len (bif Ga sz 1 then zero.headD .undef else .agg zero)) (ye e sz ps):=by
 simp only[qf,qo,gM,gM.kY]
 cases ye e sz ps with
 |none=>rfl
 |some ps=>simp only[];cases lE (List.replicate len (bif Ga sz 1 then zero.headD .undef else .agg zero)) ps<;>rfl
def bO (sz bytes:Nat)(h:qh)(own:Option Nat)(x y:Option AVal):Option bh:=match x,y with
 |some (.list n c8 xs),I vy=>b3 (n||own.isSome) (iu sz bytes h own n c8 xs (zy sz vy))
 |_,_=>En
where iu (sz bytes:Nat) (h:qh) (own:Option Nat) (n:Bool) (c8:Nat) (xs:List AVal) (ys:Option (List AVal)):Option bh:=match ys with
 |some ys=>b3 ((Ga sz c8||(xs.isEmpty&&n))&&Gd (xs.length+ys.length) 1073741824&&Gd bytes 4096&&Gg 0 sz) (I ⟨qJ n sz xs ys,Gc,own,h⟩)
 |none=>En
@[go_sem] theorem zal {sz bytes own n c8 xs vy}:bO sz bytes h own (I (.list n c8 xs)) (I vy)=b3 (n||own.isSome) (bO.iu sz bytes h own n c8 xs (zy sz vy)):=rfl
@[go_sem] theorem j9c {sz bytes own n c8 xs ys}:bO.iu sz bytes h own n c8 xs (I ys)=b3 ((Ga sz c8||(xs.isEmpty&&n))&&Gd (xs.length+ys.length) 1073741824&&Gd bytes 4096&&Gg 0 sz) (I ⟨qJ n sz xs ys,Gc,own,h⟩):=rfl
@[go_sem] theorem zio {sz bytes x y}:qf p xc h0 al e h (.append En sz bytes x y)=bO sz bytes h (zq e x) (qi e x) (qi e y):=by
 simp only[qf,qo,bO,bO.iu]
 cases qi e x with
 |none=>rfl
 |some vx=>
  cases vx with
  |list n c8 xs=>
   cases qi e y with
   |none=>rfl
   |some vy=>
    simp only[b3]
    cases (n||(zq e x).isSome)with
    |false=>rfl
    |true=>
     simp only[cond_true]
     cases zy sz vy with
     |none=>rfl
     |some ys=>simp only[];cases ((Ga sz c8||(xs.isEmpty&&n))&&Gd (xs.length+ys.length) 1073741824&&Gd bytes 4096&&Gg 0 sz)<;>rfl
  |_=>cases qi e y<;>rfl
@[go_sem] theorem S9 {z:Nat}{f:α→AVal}{l}:zy z (sl z f l)=I ((l.getD []).map f):=by
 cases l<;>simp[zy,sl]
@[go_sem] theorem zhs {z b xs}:zy z (.list b z xs)=I xs:=by simp[zy]
@[go_sem] theorem zkx {z z' b}:zy z (.list b z' [])=I []:=by simp[zy]
@[go_sem] theorem jz6 {z xs ys}:qJ E3 z xs ys=.list E3 z (xs++ys):=rfl
@[go_sem] theorem j3z {z b xs y ys}:qJ b z xs (y::ys)=.list E3 z (xs++y::ys):=by cases b<;>rfl
attribute [go_sem] Option.isSome_some Option.isSome_none Bool.or_true Bool.true_or List.isEmpty_nil List.isEmpty_cons Bool.and_false Bool.false_and
def Ta (h:qh)(i:Nat)(x:Option AVal):Option bh:=match x with
 |some (.aC vs)=>gD h vs[i]?
 |_=>En
@[go_sem] theorem jss {i vs}:Ta h i (I (.aC vs))=gD h vs[i]?:=rfl
@[go_sem] theorem zai {i x}:qf p xc h0 al e h (.extract x i)=Ta h i (qi e x):=by
 simp only[qf,qo,Ta]
 cases qi e x with
 |none=>rfl
 |some v=>cases v<;>rfl
def Tb (op:UnOp)(h:qh)(x:Option AVal):Option bh:=match x with
 |some v=>gD h (xM op v)
 |none=>En
@[go_sem] theorem zeg {op v}:Tb op h (I v)=gD h (xM op v):=rfl
@[go_sem] theorem zmx {op x}:qf p xc h0 al e h (.un op x)=Tb op h (qi e x):=by
 simp only[qf,qo,Tb]
 cases qi e x<;>rfl
@[go_sem] theorem zlv {b}:xM .not (.bool b)=I (.bool (!b)):=rfl
@[go_sem] theorem zlw {k n}:xM .neg (.int k n)=I (.int k (qe k (0-n))):=rfl
def Tc (neq:Bool)(h:qh)(x y:Option AVal):Option bh:=match x,y with
 |some (.bool a),I (.bool b)=>val h (.bool (bif neq then !(a == b)else a == b))
 |_,_=>En
@[go_sem] theorem j9i {neq a b}:Tc neq h (I (.bool a)) (I (.bool b))=I ⟨.bool (bif neq then !(a == b)else a == b),E3,En,h⟩:=rfl
@[go_sem] theorem zms {neq x y}:qf p xc h0 al e h (.beq neq x y)=Tc neq h (qi e x) (qi e y):=by
 simp only[qf,qo,Tc]
 cases qi e x with
 |none=>rfl
 |some v=>cases v<;>cases qi e y<;>rfl
def Td (f:Fn)(h:qh)(a b:Option (List AVal)):Option bh:=match a,b with
 |some a,I b=>val h (.fn f a b)
 |_,_=>En
@[go_sem] theorem jwd {f a b}:Td f h (I a) (I b)=I ⟨.fn f a b,E3,En,h⟩:=rfl
@[go_sem] theorem zd7 {f a b}:qf p xc h0 al e h (.gC f a b)=Td f h (fX e a) (fX e b):=by
 simp only[qf,qo,Td]
 cases fX e a<;>cases fX e b<;>rfl
def G0 (f:AVal→AVal→Option AVal)(h:qh)(l:Option (List AVal)):Option bh:=match l with
 |some (v::vs)=>gD h (nX f v vs)
 |_=>En
@[go_sem] theorem zf0 {f v vs}:G0 f h (I (v::vs))=gD h (nX f v vs):=rfl
@[go_sem] theorem zm1 {l}:qf p xc h0 al e h (.mx l)=G0 max2 h (fX e l):=by
 simp only[qf,qo,G0]
 cases fX e l with
 |none=>rfl
 |some vs=>cases vs<;>rfl
@[go_sem] theorem zmz {l}:qf p xc h0 al e h (.mn l)=G0 min2 h (fX e l):=by
 simp only[qf,qo,G0]
 cases fX e l with
 |none=>rfl
 |some vs=>cases vs<;>rfl
def Te (f:AVal→AVal→Option AVal)(x:Option AVal)(l:List AVal):Option AVal:=match x with
 |some z=>nX f z l
 |none=>En
@[go_sem] theorem j1g {f x l}:Te f (I x) l=nX f x l:=rfl
@[go_sem] theorem zas {f x}:nX f x []=I x:=rfl
@[go_sem] theorem j43 {f x y l}:nX f x (y::l)=Te f (f x y) l:=by
 simp only[nX,Te];rfl
@[go_sem] theorem zgf {k x y}:max2 (.int k x) (.int k y)=I (.int k (max x y)):=by
 simp only[max2,decide_true,cond_true]
 congr 2
 by_cases h:y > x
 ·rw[if_pos h];omega
 ·rw[if_neg h];omega
@[go_sem] theorem zcj {k x y}:min2 (.int k x) (.int k y)=I (.int k (min x y)):=by
 simp only[min2,decide_true,cond_true]
 congr 2
 by_cases h:y<x
 ·rw[if_pos h];omega
 ·rw[if_neg h];omega
def Tf (k:Nat)(neq:Bool)(h:qh)(x:Option AVal):Option bh:=match k,x with
  |0,I (.list n _ _)=>val h (.bool (bif neq then !n else n))
  |0,I (.ms ..)=>val h (.bool neq)
  |1,I .bZ=>val h (.bool (!neq))
  |1,I (.ptr ..)=>val h (.bool neq)
  |1,I (.ah ..)=>val h (.bool neq)
  |2,I .bX=>val h (.bool (!neq))
  |2,I (.map ..)=>val h (.bool neq)
  |3,I .cr=>val h (.bool (!neq))
  |3,I (.fn ..)=>val h (.bool neq)
  |_,_=>En
@[go_sem] theorem zlm {k neq x}:qf p xc h0 al e h (.fA k neq x)=Tf k neq h (qi e x):=rfl
@[go_sem] theorem j7z {neq n z xs}:Tf 0 neq h (I (.list n z xs))=I ⟨.bool (bif neq then !n else n),E3,En,h⟩:=rfl
@[go_sem] theorem j94 {n k i}:below n (.int k i)=Gc:=rfl
@[go_sem] theorem j2f {n b}:below n (.bool b)=Gc:=rfl
@[go_sem] theorem zau {n s}:below n (.str s)=Gc:=rfl
@[go_sem] theorem j5h {n b z xs}:below n (.list b z xs)=qw n xs:=by simp only[below]
@[go_sem] theorem zaz {n xs}:below n (.agg xs)=qw n xs:=by simp only[below]
@[go_sem] theorem j9u {n xs}:below n (.aC xs)=qw n xs:=by simp only[below]
@[go_sem] theorem zaw {n b o}:below n (.ptr b o)=decide (b<n):=by simp only[below,vD]
@[go_sem] theorem j96 {n b}:below n (.map b)=decide (b<n):=by simp only[below,vD]
@[go_sem] theorem zhn {n k a b}:below n (.fn (.func k) a b)=(qw n a&&qw n b):=by simp only[below]
@[go_sem] theorem j0n {n}:qw n []=Gc:=by simp only[qw]
@[go_sem] theorem q7a {n x xs}:qw n (x::xs)=(below n x&&qw n xs):=by simp only[qw]
@[go_sem] theorem jz8 {n i}:below n (zw i)=Gc:=rfl
@[go_sem] theorem j6m {n z l}:below n (sl z zw l)=Gc:=vC fun _=>rfl
theorem qv7 {n f}(hf:∀x,below n (f x)=Gc):∀l:List α,qw n (l.map f)=Gc
 | []=>rfl
 |x::l=>by rw[List.map_cons,q7a,hf,qv7 hf l];rfl
@[go_sem] theorem jzx {n:Nat}{l:List Int}:qw n (l.map zw)=Gc:=qv7 (fun _=>rfl) l
@[go_sem] theorem zln {k i}:ko h (.int k i)=I (.int k i):=rfl
@[go_sem] theorem zd2 {b}:ko h (.bool b)=I (.bool b):=rfl
@[go_sem] theorem zk9 {s}:ko h (.str s)=I (.str s):=rfl
@[go_sem] theorem zep {b z xs}:ko h (.list b z xs)=I (.list b z xs):=rfl
@[go_sem] theorem juz {z:Nat}{f:α→AVal}{l}:ko h (sl z f l)=I (sl z f l):=by cases l<;>rfl
@[go_sem] theorem zd3:lF h []=I []:=rfl
@[go_sem] theorem j85 {v vs}:lF h (v::vs)=pK (ko h v) (lF h vs):=by
 simp only[lF,pK]
 cases ko h v with
 |none=>rfl
 |some x=>cases lF h vs<;>rfl
def L0 (l:Option (List AVal)):Option AVal:=match l with
 |some xs=>I (.agg xs)
 |none=>En
@[go_sem] theorem j9g {xs}:L0 (I xs)=I (.agg xs):=rfl
@[go_sem] theorem Tg {cs}:aF h (.agg cs)=L0 (lF h cs):=by
 simp only[aF,L0]
 cases lF h cs<;>rfl
@[go_sem] theorem zbs {k i}:aF h (.int k i)=I (.int k i):=rfl
@[go_sem] theorem j9f {b}:aF h (.bool b)=I (.bool b):=rfl
@[go_sem] theorem zd8 {s}:aF h (.str s)=I (.str s):=rfl
@[go_sem] theorem j88 {b z xs}:aF h (.list b z xs)=I (.list b z xs):=rfl
@[go_sem] theorem zk4 {z:Nat}{f:α→AVal}{l}:aF h (sl z f l)=I (sl z f l):=by cases l<;>rfl
def Ti (l:Option (List AVal)):Option AVal:=match l with
 |some xs=>I (.aC xs)
 |none=>En
@[go_sem] theorem za3 {xs}:Ti (I xs)=I (.aC xs):=rfl
@[go_sem] theorem zfp {cs}:aF h (.aC cs)=Ti (aF.bC h cs):=by
 simp only[aF,Ti]
 cases aF.bC h cs<;>rfl
@[go_sem] theorem zg9:aF.bC h []=I []:=rfl
@[go_sem] theorem zi1 {cs vs}:aF.bC h (.agg cs::vs)=pK (L0 (lF h cs)) (aF.bC h vs):=by
 rw[aF.bC]
 cases lF h cs with
 |none=>rfl
 |some x=>cases aF.bC h vs<;>rfl
theorem G1 {v vs}(hv:v.isAgg=E3):aF.bC h (v::vs)=pK (ko h v) (aF.bC h vs):=by
 have:∀cs,v≠.agg cs:=fun cs hc=>by rw[hc]at hv;cases hv
 rw[aF.bC]
 ·cases ko h v with
  |none=>rfl
  |some x=>cases aF.bC h vs<;>rfl
 ·exact this
@[go_sem] theorem zhw {k i vs}:aF.bC h (.int k i::vs)=pK (I (.int k i)) (aF.bC h vs):=G1 rfl
@[go_sem] theorem zax {b vs}:aF.bC h (.bool b::vs)=pK (I (.bool b)) (aF.bC h vs):=G1 rfl
@[go_sem] theorem zda {s vs}:aF.bC h (.str s::vs)=pK (I (.str s)) (aF.bC h vs):=G1 rfl
@[go_sem] theorem j9r {b z xs vs}:aF.bC h (.list b z xs::vs)=pK (I (.list b z xs)) (aF.bC h vs):=G1 rfl
@[go_sem] theorem zk5 {z:Nat}{f:α→AVal}{l vs}:aF.bC h (sl z f l::vs)=pK (I (sl z f l)) (aF.bC h vs):=by
 rw[G1 (by cases l<;>rfl),juz]
attribute [go_sem] List.contains_cons List.contains_nil
@[go_sem] theorem zkt {a b:Nat}:(a == b)=decide (a=b):=by
 by_cases qL:a=b<;>simp[qL]
def G3 (agg:Bool)(c:Option (AVal×Bool))(vs:Option (List AVal)):Option (AVal×Bool):=match vs,agg with
 |some vs,Gc=>I (.agg vs,E3)
 |some _,E3=>c
 |none,_=>En
@[go_sem] theorem zam {c vs}:G3 Gc c (I vs)=I (.agg vs,E3):=rfl
@[go_sem] theorem j9z {c vs}:G3 E3 c (I vs)=c:=rfl
def L2 (agg:Bool)(o n:Nat)(cs:Option (List (AVal×Bool))):Option (AVal×Bool):=match cs with
 |some cs=>G3 agg cs[o]? (zj cs o n)
 |none=>En
@[go_sem] theorem j5s {agg o n cs}:L2 agg o n (I cs)=G3 agg cs[o]? (zj cs o n):=rfl
def Tj (agg:Bool)(n:Nat)(h:qh)(x:Option (AVal×Bool)):Option (AVal×Bool):=match x with
 |some (.ptr b o,_)=>L2 agg o n (jw h b)
 |_=>En
@[go_sem] theorem j9w {agg n b o w}:Tj agg n h (I (.ptr b o,w))=L2 agg o n (jw h b):=rfl
@[go_sem] theorem jro {t n agg}:uZ ⟨e,h⟩ (.cell t agg n)=Tj agg n h (jj t e):=by
 simp only[uZ,Tj]
 cases jj t e with
 |none=>rfl
 |some x=>
  obtain⟨v,w⟩:=x
  cases v with
  |ptr b o=>
   simp only[L2]
   cases jw h b with
   |none=>rfl
   |some cs=>
    simp only[G3]
    cases zj cs o n with
    |none=>rfl
    |some vs=>cases agg with
     |true=>rfl
     |false=>simp only[cond_false];cases cs[o]?<;>rfl
  |_=>rfl
theorem zx {k args v v' o}(hp:p.cG k=En)(hc:ql p xc k args []=I (v,o,h))(hz:aF h v=I v')(hv:below 0 v'=Gc):qc p xc k args=I (v',o&&v.cJ):=by
 unfold qc
 rw[hp]
 simp only[hc,hz,mr,hv,cond_true]
end
end Go.Abs
