/- Equations of the executor, second part. -/
import Derived.Test.YtfopaakmgogpiaaGreatDoorAbsI
set_option linter.unusedVariables false
set_option linter.unusedSimpArgs false
open Option renaming some→I,none→Eh
open Bool renaming false→Ek,true→Eo
open Nat renaming beq→En,ble→Ep,blt→Eu,eq_of_beq_eq_true→Ev
namespace Go.Abs
section
variable {p:qr}{xc:XC}{h0:Nat}{al:Option (List Nat)}{e:Env}{h:za}{α:Type}
attribute [go_sem] List.getElem?_cons_zero List.getElem?_cons_succ List.getElem?_nil List.set_cons_zero List.set_cons_succ List.set_nil List.cons_append List.replicate_zero List.replicate_succ List.map_cons List.map_nil List.all_cons List.all_nil List.drop_zero List.drop_succ_cons List.take_zero List.take_succ_cons List.drop_nil List.take_nil Bool.and_true Bool.true_and Bool.or_false Bool.false_or Bool.and_self List.headD_cons List.foldl_cons List.foldl_nil List.flatMap_cons List.flatMap_nil
@[go_sem] theorem zlj {k n}:zd (.int k n)=Eo:=rfl
@[go_sem] theorem zkl {b}:zd (.bool b)=Eo:=rfl
@[go_sem] theorem zlr {s}:zd (.str s)=Eo:=rfl
@[go_sem] theorem zkx {b z xs}:zd (.list b z xs)=Eo:=rfl
@[go_sem] theorem zmd {b o n}:zd (.ms b o n)=Eo:=rfl
@[go_sem] theorem zlg {b o}:zd (.ptr b o)=Eo:=rfl
@[go_sem] theorem zlz {b}:zd (.map b)=Eo:=rfl
@[go_sem] theorem j9d:zd .bN=Eo:=rfl
@[go_sem] theorem j99:zd .bM=Eo:=rfl
@[go_sem] theorem zdl:zd .bX=Eo:=rfl
@[go_sem] theorem zmb {f a b}:zd (.fn f a b)=Eo:=rfl
@[go_sem] theorem zmi {z:Nat}{f:α→qa}{l}:zd (sl z f l)=Eo:=by cases l<;>rfl
@[go_sem] theorem zb6 {cs}:qa.flat (.agg cs)=cs:=rfl
@[go_sem] theorem zdc {k n}:qa.flat (.int k n)=[.int k n]:=rfl
@[go_sem] theorem j8z {b}:qa.flat (.bool b)=[.bool b]:=rfl
@[go_sem] theorem zdu {s}:qa.flat (.str s)=[.str s]:=rfl
@[go_sem] theorem zaz {b z xs}:qa.flat (.list b z xs)=[.list b z xs]:=rfl
@[go_sem] theorem zks {z:Nat}{f:α→qa}{l}:qa.flat (sl z f l)=[sl z f l]:=by cases l<;>rfl
@[go_sem] theorem zer {b o}:qa.flat (.ptr b o)=[.ptr b o]:=rfl
@[go_sem] theorem zj3 {b}:qa.flat (.map b)=[.map b]:=rfl
@[go_sem] theorem zky {f a b}:qa.flat (.fn f a b)=[.fn f a b]:=rfl
@[go_sem] theorem zla {b o n}:qa.flat (.ms b o n)=[.ms b o n]:=rfl
@[go_sem] theorem OD {a b}:En a b=decide (a=b):=by
 cases h:En a b with
 |true=>have:=Ev h;simp[this]
 |false=>
  have:a≠b:=fun hh=>by subst hh;simp at h
  simp[this]
@[go_sem] theorem nf {a b}:Ep a b=decide (a≤b):=by
 cases h:Ep a b with
 |true=>have:=Nat.le_of_ble_eq_true h;simp[this]
 |false=>
  have:¬a≤b:=fun hh=>by rw[Nat.ble_eq_true_of_le hh]at h;cases h
  simp[this]
@[go_sem] theorem vb {a b}:Eu a b=decide (a<b):=by
 show Ep (a+1) b=_
 rw[nf];rfl
@[go_sem] theorem zan {b}:yv h0 Eh b=Eo:=rfl
@[go_sem] theorem zlb:oq []=Ek:=rfl
@[go_sem] theorem zh0 {k l}:oq (k::l)=decide (1000≤k):=by simp only[oq,nf]
@[go_sem] theorem zfi {k b l}:zW h0 (k::l) b=cond (decide (k<2000)) (decide (b=k-1000)&&decide (b<h0)) (cond (decide (k<4000)) (decide (b=h0+(k-2000))) (decide (b<h0))):=by
 have e:∀x y:Nat,En x y=decide (x=y):=fun x y=>by
  cases h:En x y with
  |true=>rw[Ev h];simp
  |false=>
   have:x≠y:=fun e=>by rw[e,Nat.beq_refl]at h;cases h
   simp[this]
 simp only[zW,vb,e]
@[go_sem] theorem j0a {b l}:yv h0 (I l) b=cond (oq l) (zW h0 l b) (decide (b<h0)||l.contains (b-h0)):=by simp only[yv,vb]
def fP (r:Option za)(v:qa):Option qo:=match r with
 |some h'=>I ⟨v,Ek,Eh,h'⟩
 |none=>Eh
@[go_sem] theorem j8t {v}:fP (I h) v=I ⟨v,Ek,Eh,h⟩:=rfl
@[go_sem] theorem j86 {h0 r es}:OC h0 r h Eo (I es)=fP (aF h0 h r (.map es)) (.map (h0+r)):=rfl
def VU (n:Nat)(h:za)(b:Option qn)(x:qn):Option za:=match b with
 |some .hole=>I (h.set n x)
 |_=>Eh
@[go_sem] theorem j9i {n x}:VU n h (I .hole) x=I (h.set n x):=rfl
@[go_sem] theorem zai {r x}:aF h0 h r x=VU (h0+r) h h[h0+r]? x:=by
 unfold aF VU;rfl
def bT (b:Bool)(r:Option qo):Option qo:=match b with
 |true=>r
 |false=>Eh
@[go_sem] theorem zb7 {r}:bT Eo r=r:=rfl
@[go_sem] theorem zkt {r z}:j8 p xc h0 al e h (.alloc r z)=bT (z.all zd) (fP (aF h0 h r (.cells (cellsOf z))) (.ptr (h0+r) 0)):=by
 simp only[j8,zi,bT]
 cases z.all zd with
 |false=>rfl
 |true=>simp only[cT,fP];cases aF h0 h r (.cells (cellsOf z))<;>rfl
def VW (n:Nat)(h:za)(x:Option qa):Option qo:=match x with
 |some v=>bT (En v.flat.length n&&v.flat.all zd) (I ⟨.ah v,Ek,Eh,h⟩)
 |none=>Eh
@[go_sem] theorem j2n {n v}:VW n h (I v)=bT (En v.flat.length n&&v.flat.all zd) (I ⟨.ah v,Ek,Eh,h⟩):=rfl
@[go_sem] theorem zld {n x}:j8 p xc h0 al e h (.ol n x)=VW n h (zc e x):=by
 simp only[j8,zh,VW]
 cases zc e x with
 |none=>rfl
 |some v=>
  simp only[bT]
  cases (En v.flat.length n&&v.flat.all zd)<;>rfl
def VX (h0 r n:Nat)(h:za)(x:Option qa):Option qo:=match x with
 |some v=>bT (En v.flat.length n&&v.flat.all zd) (fP (aF h0 h r (.cells (cellsOf v.flat))) (.ptr (h0+r) 0))
 |none=>Eh
@[go_sem] theorem j8r {r n v}:VX h0 r n h (I v)=bT (En v.flat.length n&&v.flat.all zd) (fP (aF h0 h r (.cells (cellsOf v.flat))) (.ptr (h0+r) 0)):=rfl
@[go_sem] theorem zmh {r n x}:j8 p xc h0 al e h (.box r n x)=VX h0 r n h (zc e x):=by
 simp only[j8,zi,VX]
 cases zc e x with
 |none=>rfl
 |some v=>
  simp only[bT,fP]
  cases (En v.flat.length n&&v.flat.all zd)with
  |false=>rfl
  |true=>simp only[cT];cases aF h0 h r (.cells (cellsOf v.flat))<;>rfl
@[go_sem] theorem jni {r}:j8 p xc h0 al e h (.dD r)=fP (aF h0 h r (.map [])) (.map (h0+r)):=by
 simp only[j8,zi,fP]
 cases aF h0 h r (.map [])<;>rfl
@[go_sem] theorem jw9:cellsOf []=[]:=rfl
@[go_sem] theorem jtl {v vs}:cellsOf (v::vs)=(v,Ek)::cellsOf vs:=rfl
def vd (agg:Bool)(h:za)(r:Option qa):Option qo:=match r with
 |some v=>bif Bool.xor agg v.isAgg then Eh else val h (.ah v)
 |none=>Eh
def EN (agg:Bool)(off n:Nat)(h:za)(x:Option qa):Option qo:=match x with
 |some (.ptr b o)=>val h (.ptr b (o+off))
 |some (.ah (.agg cs))=>vd agg h (part agg cs off n)
 |some (.dl b bz o)=>val h (.dl b bz (o+off))
 |_=>Eh
@[go_sem] theorem jpd {agg off n b v o}:EN agg off n h (I (.dl b v o))=I ⟨.dl b v (o+off),Ek,Eh,h⟩:=rfl
@[go_sem] theorem jpr {agg off n b o}:EN agg off n h (I (.ptr b o))=I ⟨.ptr b (o+off),Ek,Eh,h⟩:=rfl
@[go_sem] theorem jo5 {agg off n cs}:EN agg off n h (I (.ah (.agg cs)))=vd agg h (part agg cs off n):=rfl
@[go_sem] theorem jxu {agg off n x}:j8 p xc h0 al e h (.fieldAddr agg off n x)=EN agg off n h (zc e x):=by
 simp only[j8,zh,EN]
 cases zc e x with
 |none=>rfl
 |some v=>cases v with
  |ah v=>cases v<;>rfl
  |_=>rfl
def zlo (v:qa):Prop:=v.isAgg=Ek
theorem j8q {v}(hv:v.isAgg=Ek):vd Ek h (I v)=I ⟨.ah v,Ek,Eh,h⟩:=by simp[vd,hv,val]
@[go_sem] theorem j9w {k n}:vd Ek h (I (.int k n))=I ⟨.ah (.int k n),Ek,Eh,h⟩:=rfl
@[go_sem] theorem j8v {s}:vd Ek h (I (.str s))=I ⟨.ah (.str s),Ek,Eh,h⟩:=rfl
@[go_sem] theorem j8d {b}:vd Ek h (I (.bool b))=I ⟨.ah (.bool b),Ek,Eh,h⟩:=rfl
@[go_sem] theorem zde {z:Nat}{f:α→qa}{l}:vd Ek h (I (sl z f l))=I ⟨.ah (sl z f l),Ek,Eh,h⟩:=by cases l<;>rfl
@[go_sem] theorem j8u {cs}:vd Eo h (I (.agg cs))=I ⟨.ah (.agg cs),Ek,Eh,h⟩:=rfl
@[go_sem] theorem zim {cs off n}:part Ek cs off n=cs[off]?:=rfl
def VY (b:Bool)(cs:List qa)(off n:Nat):Option qa:=match b with
 |true=>I (.agg ((cs.drop off).take n))
 |false=>Eh
@[go_sem] theorem j48 {cs off n}:VY Eo cs off n=I (.agg ((cs.drop off).take n)):=rfl
@[go_sem] theorem zdd {cs off n}:part Eo cs off n=VY (decide (off+n≤cs.length)) cs off n:=by
 simp only[part,VY,cT,nf]
 cases decide (off+n≤cs.length)<;>rfl
@[go_sem] theorem zj4 {z:Nat}{f:α→qa}{l}:fO h0 al Ek 1 h (I (.ah (sl z f l)))=I ⟨sl z f l,Ek,Eh,h⟩:=by cases l<;>rfl
def VZ (h:za)(cs:List qa)(b:Bool):Option qo:=match b with
 |true=>I ⟨.agg cs,Ek,Eh,h⟩
 |false=>Eh
@[go_sem] theorem j9p {cs}:VZ h cs Eo=I ⟨.agg cs,Ek,Eh,h⟩:=rfl
@[go_sem] theorem jzt {n cs}:fO h0 al Eo n h (I (.ah (.agg cs)))=VZ h cs (decide (cs.length=n)):=by
 unfold VZ
 by_cases hn:cs.length=n
 ·rw[jec hn];simp[hn]
 ·simp[fO,qa.isAgg,qa.flat,hn,OD]
def HM (agg:Bool)(h:za)(vs:Option (List qa)):Option qo:=match vs with
 |some vs=>bif agg then val h (.agg vs)else(match vs with
  | [v]=>val h v
  |_=>Eh)
 |none=>Eh
@[go_sem] theorem zfz {vs}:HM Eo h (I vs)=I ⟨.agg vs,Ek,Eh,h⟩:=rfl
@[go_sem] theorem zca {v}:HM Ek h (I [v])=I ⟨v,Ek,Eh,h⟩:=rfl
def V0 (b:Option qn):Option (List (qa×Bool)):=match b with
 |some (.cells cs)=>I cs
 |_=>Eh
@[go_sem] theorem jxh {cs}:V0 (I (.cells cs))=I cs:=rfl
@[go_sem] theorem q60 {b}:ym h b=V0 h[b]?:=by unfold ym V0;rfl
def V1 (b:Bool)(cs:List (qa×Bool))(off n:Nat):Option (List qa):=match b with
 |true=>I (((cs.drop off).take n).map (·.1))
 |false=>Eh
@[go_sem] theorem zcq {cs off n}:V1 Eo cs off n=I (((cs.drop off).take n).map (·.1)):=rfl
@[go_sem] theorem jvc {cs off n}:kf cs off n=V1 (decide (off+n≤cs.length)) cs off n:=by
 simp only[kf,V1,nf]
 cases decide (off+n≤cs.length)<;>rfl
def V2 (agg:Bool)(o n:Nat)(h:za)(cs:Option (List (qa×Bool))):Option qo:=match cs with
 |some cs=>HM agg h (kf cs o n)
 |none=>Eh
@[go_sem] theorem j9m {agg o n cs}:V2 agg o n h (I cs)=HM agg h (kf cs o n):=rfl
@[go_sem] theorem j9c {agg n b o}:fO h0 al agg n h (I (.ptr b o))=bT (yv h0 al b) (V2 agg o n h (ym h b)):=by
 simp only[fO,bT,V2,HM]
 cases yv h0 al b with
 |false=>rfl
 |true=>
  simp only[cT]
  cases ym h b with
  |none=>rfl
  |some cs=>simp only[];cases kf cs o n<;>rfl
def OE (r:Option za)(v:qa)(w:Bool):Option qo:=match r with
 |some h'=>I ⟨v,w,Eh,h'⟩
 |none=>Eh
@[go_sem] theorem jyt {v w}:OE (I h) v w=I ⟨v,w,Eh,h⟩:=rfl
def OG (h:za)(b o:Nat)(cs:List (qa×Bool))(x:Option (qa×Bool)):Option qo:=match x with
 |some (v,w)=>OE (yh h b (.cells (cs.set o (v,Ek)))) v w
 |none=>Eh
@[go_sem] theorem j5t {b o cs v w}:OG h b o cs (I (v,w))=OE (yh h b (.cells (cs.set o (v,Ek)))) v w:=rfl
def OH (h:za)(b o:Nat)(cs:Option (List (qa×Bool))):Option qo:=match cs with
 |some cs=>OG h b o cs cs[o]?
 |none=>Eh
@[go_sem] theorem jyc {b o cs}:OH h b o (I cs)=OG h b o cs cs[o]?:=rfl
def V3 (h0:Nat)(al:Option (List Nat))(off:Option Nat)(h:za)(x:Option qa):Option qo:=match x with
 |some (.ptr b o)=>bT (yv h0 al b&&uF off o) (OH h b o (ym h b))
 |_=>Eh
@[go_sem] theorem jpp {off b o}:V3 h0 al off h (I (.ptr b o))=bT (yv h0 al b&&uF off o) (OH h b o (ym h b)):=rfl
@[go_sem] theorem jzv {o}:uF Eh o=Eo:=rfl
@[go_sem] theorem jx3 {a o}:uF (I a) o=decide (a=o):=by simp only[uF,OD]
@[go_sem] theorem j4x {off x}:j8 p xc h0 al e h (.b9 off x)=V3 h0 al off h (zc e x):=by
 simp only[j8,zi,V3]
 cases zc e x with
 |none=>rfl
 |some v=>cases v with
  |ptr b o=>
   simp only[bT,OH,OG,OE]
   cases (yv h0 al b&&uF off o)with
   |false=>rfl
   |true=>
    simp only[cT]
    cases ym h b with
    |none=>rfl
    |some cs=>
     simp only[]
     cases cs[o]? with
     |none=>rfl
     |some c=>
      obtain⟨v,w⟩:=c
      simp only[]
      cases yh h b (.cells (cs.set o (v,Ek)))<;>rfl
  |_=>rfl
def V4 (b:Bool)(n:Nat)(x:qn)(h:za):Option za:=match b with
 |true=>I (h.set n x)
 |false=>Eh
@[go_sem] theorem zaq {n x}:V4 Eo n x h=I (h.set n x):=rfl
@[go_sem] theorem j93 {b x}:yh h b x=V4 (decide (b<h.length)) b x h:=by
 simp only[yh,V4,vb]
 cases decide (b<h.length)<;>rfl
def V5 (b:Bool)(cs:List (qa×Bool))(off:Nat)(vs:List qa):Option (List (qa×Bool)):=match b with
 |true=>I (cs.take off++vs.map (·,Ek)++cs.drop (off+vs.length))
 |false=>Eh
@[go_sem] theorem zjf {cs off vs}:V5 Eo cs off vs=I (cs.take off++vs.map (·,Ek)++cs.drop (off+vs.length)):=rfl
@[go_sem] theorem jpc {cs off vs}:yj cs off vs=V5 (decide (off+vs.length≤cs.length)&&vs.all zd) cs off vs:=by
 simp only[yj,V5,nf]
 cases (decide (off+vs.length≤cs.length)&&vs.all zd)<;>rfl
def zmm (e:Env)(x:qp):Option Nat:=kn e x
def OI (t:Nat)(x:Option (qa×Bool)):Option Nat:=match x with
 |some (_,Eo)=>I t
 |_=>Eh
@[go_sem] theorem j9v {t v}:OI t (I (v,Eo))=I t:=rfl
@[go_sem] theorem j49 {t v}:OI t (I (v,Ek))=Eh:=rfl
@[go_sem] theorem j84 {t}:kn e (.tmp t)=OI t (yd t e):=by
 simp only[kn,OI];rfl
@[go_sem] theorem jxv {v}:kn e (.const v)=Eh:=rfl
def OJ (h:za)(b:Nat)(cs:Option (List (qa×Bool))):Option qo:=match cs with
 |some dV=>fP (yh h b (.cells dV)) .undef
 |none=>Eh
@[go_sem] theorem jr4 {b cs}:OJ h b (I cs)=fP (yh h b (.cells cs)) .undef:=rfl
def OL (t:Nat)(r:Option za):Option qo:=match r with
 |some h'=>I ⟨.undef,Ek,I t,h'⟩
 |none=>Eh
@[go_sem] theorem j11 {t}:OL t (I h)=I ⟨.undef,Ek,I t,h⟩:=rfl
def HN (n:Nat)(h:za)(b o:Nat)(v:qa)(own:Option Nat)(cs:Option (List (qa×Bool))):Option qo:=match cs,own with
 |some cs,I t=>bT (En n 1&&v.ct&&Eu o cs.length) (OL t (yh h b (.cells (cs.set o (v,Eo)))))
 |some cs,Eh=>bT (En v.flat.length n) (OJ h b (yj cs o v.flat))
 |none,_=>Eh
@[go_sem] theorem j3h {n b o t v cs}:HN n h b o v (I t) (I cs)=bT (En n 1&&v.ct&&Eu o cs.length) (OL t (yh h b (.cells (cs.set o (v,Eo))))):=rfl
@[go_sem] theorem jp8 {n b o v cs}:HN n h b o v Eh (I cs)=bT (En v.flat.length n) (OJ h b (yj cs o v.flat)):=rfl
def V6 (h0:Nat)(al:Option (List Nat))(n:Nat)(h:za)(own:Option Nat)(a x:Option qa):Option qo:=match a,x with
 |some (.ptr b o),I v=>bT (yv h0 al b) (HN n h b o v own (ym h b))
 |_,_=>Eh
@[go_sem] theorem j4s {n b o own v}:V6 h0 al n h own (I (.ptr b o)) (I v)=bT (yv h0 al b) (HN n h b o v own (ym h b)):=rfl
@[go_sem] theorem zkq {n a x}:j8 p xc h0 al e h (.store n a x)=V6 h0 al n h (kn e x) (zc e a) (zc e x):=by
 simp only[j8,zi,V6]
 cases zc e a with
 |none=>rfl
 |some va=>
  cases va with
  |ptr b o=>
   cases zc e x with
   |none=>rfl
   |some v=>
    simp only[bT]
    cases yv h0 al b with
    |false=>rfl
    |true=>
     simp only[cT]
     cases ym h b with
     |none=>rfl
     |some cs=>
      simp only[HN]
      cases kn e x with
      |none=>
       simp only[bT,OJ,fP]
       cases En v.flat.length n with
       |false=>rfl
       |true=>
        simp only[cT]
        cases yj cs o v.flat with
        |none=>rfl
        |some dV=>simp only[];cases yh h b (.cells dV)<;>rfl
      |some t=>
       simp only[bT,OL]
       cases (En n 1&&v.ct&&Eu o cs.length)with
       |false=>rfl
       |true=>simp only[cT];cases yh h b (.cells (cs.set o (v,Eo)))<;>rfl
  |_=>rfl
@[go_sem] theorem jx0 {b z xs}:qa.ct (.list b z xs)=Eo:=rfl
@[go_sem] theorem j9q {z:Nat}{f:α→qa}{l}:qa.ct (sl z f l)=Eo:=by cases l<;>rfl
def OM (b:Bool)(off:Nat)(vs:List qa)(l:Option (List (Nat×List qa))):Option (List (Nat×List qa)):=match b,l with
 |true,I r=>I ((off,vs)::r)
 |_,_=>Eh
@[go_sem] theorem jw7 {off vs r}:OM Eo off vs (I r)=I ((off,vs)::r):=rfl
def V7 (x:Option qa)(off n:Nat)(l:Option (List (Nat×List qa))):Option (List (Nat×List qa)):=match x with
 |some v=>OM (En v.flat.length n&&v.flat.all zd) off v.flat l
 |none=>Eh
@[go_sem] theorem jw0 {v off n l}:V7 (I v) off n l=OM (En v.flat.length n&&v.flat.all zd) off v.flat l:=rfl
@[go_sem] theorem jpm:ln e []=I []:=rfl
@[go_sem] theorem jo1 {off n x l}:ln e ((off,n,x)::l)=V7 (zc e x) off n (ln e l):=by
 simp only[ln,V7,OM]
 cases zc e x with
 |none=>rfl
 |some v=>simp only[];cases (En v.flat.length n&&v.flat.all zd)<;>cases ln e l<;>rfl
def jT (h:za)(zero:List qa)(ps:Option (List (Nat×List qa))):Option qo:=match ps with
 |some ps=>nY h (jJ zero ps)
 |none=>Eh
where nY (h:za) (r:Option (List qa)):Option qo:=match r with
 |some cs=>I ⟨.agg cs,Ek,Eh,h⟩
 |none=>Eh
@[go_sem] theorem j7u {zero ps}:jT h zero (I ps)=jT.nY h (jJ zero ps):=rfl
@[go_sem] theorem j5i {cs}:jT.nY h (I cs)=I ⟨.agg cs,Ek,Eh,h⟩:=rfl
@[go_sem] theorem zki {zero ps}:j8 p xc h0 al e h (.build zero ps)=jT h zero (ln e ps):=by
 simp only[j8,zh,jT,jT.nY]
 cases ln e ps with
 |none=>rfl
 |some ps=>simp only[];cases jJ zero ps<;>rfl
@[go_sem] theorem j9h {cs}:jJ cs []=I cs:=rfl
def V8 (b:Bool)(cs:List qa)(off:Nat)(vs:List qa)(l:List (Nat×List qa)):Option (List qa):=match b with
 |true=>jJ (cs.take off++vs++cs.drop (off+vs.length)) l
 |false=>Eh
@[go_sem] theorem jyh {cs off vs l}:V8 Eo cs off vs l=jJ (cs.take off++vs++cs.drop (off+vs.length)) l:=rfl
@[go_sem] theorem j41 {cs off vs l}:jJ cs ((off,vs)::l)=V8 (decide (off+vs.length≤cs.length)) cs off vs l:=by
 simp only[jJ,V8,nf]
 cases decide (off+vs.length≤cs.length)<;>rfl
def gg (x:Option qa)(i sz:Nat)(l:Option (List (Nat×qa))):Option (List (Nat×qa)):=match x with
 |some v=>kL (En v.flat.length sz&&v.flat.all zd) i v l
 |none=>Eh
where kL (b:Bool) (i:Nat) (v:qa) (l:Option (List (Nat×qa))):Option (List (Nat×qa)):=match b,l with
 |true,I r=>I ((i,v)::r)
 |_,_=>Eh
@[go_sem] theorem jxp {v i sz l}:gg (I v) i sz l=gg.kL (En v.flat.length sz&&v.flat.all zd) i v l:=rfl
@[go_sem] theorem jxl {v i r}:gg.kL Eo i v (I r)=I ((i,v)::r):=rfl
@[go_sem] theorem jpi {sz}:iG e sz []=I []:=rfl
@[go_sem] theorem jmi {sz i x l}:iG e sz ((i,x)::l)=gg (zc e x) i sz (iG e sz l):=by
 simp only[iG,gg,gg.kL]
 cases zc e x with
 |none=>rfl
 |some v=>simp only[];cases (En v.flat.length sz&&v.flat.all zd)<;>cases iG e sz l<;>rfl
@[go_sem] theorem j9z {xs}:lq xs []=I xs:=rfl
def V9 (b:Bool)(xs:List qa)(i:Nat)(v:qa)(l:List (Nat×qa)):Option (List qa):=match b with
 |true=>lq (xs.set i v) l
 |false=>Eh
@[go_sem] theorem jxj {xs i v l}:V9 Eo xs i v l=lq (xs.set i v) l:=rfl
@[go_sem] theorem j6w {xs i v l}:lq xs ((i,v)::l)=V9 (decide (i<xs.length)) xs i v l:=by
 simp only[lq,V9,vb]
 cases decide (i<xs.length)<;>rfl
def gh (sz:Nat)(h:za)(xs:List qa)(ps:Option (List (Nat×qa))):Option qo:=match ps with
 |some ps=>kM sz h (lq xs ps)
 |none=>Eh
where kM (sz:Nat) (h:za) (r:Option (List qa)):Option qo:=match r with
 |some xs=>I ⟨.list Ek sz xs,Eo,Eh,h⟩
 |none=>Eh
@[go_sem] theorem jxr {sz xs ps}:gh sz h xs (I ps)=gh.kM sz h (lq xs ps):=rfl
@[go_sem] theorem jxg {sz xs}:gh.kM sz h (I xs)=I ⟨.list Ek sz xs,Eo,Eh,h⟩:=rfl
@[go_sem] theorem jso {sz len zero ps}:j8 p xc h0 al e h (.buildSlice sz len zero ps)=gh sz h (List.replicate len (bif En sz 1 then zero.headD .undef else .agg zero)) (iG e sz ps):=by
 simp only[j8,zh,gh,gh.kM]
 cases iG e sz ps with
 |none=>rfl
 |some ps=>simp only[];cases lq (List.replicate len (bif En sz 1 then zero.headD .undef else .agg zero)) ps<;>rfl
def bE (sz bytes:Nat)(h:za)(own:Option Nat)(x y:Option qa):Option qo:=match x,y with
 |some (.list n cJ xs),I vy=>bT (n||own.isSome) (gR sz bytes h own n cJ xs (ku sz vy))
 |_,_=>Eh
where gR (sz bytes:Nat) (h:za) (own:Option Nat) (n:Bool) (cJ:Nat) (xs:List qa) (ys:Option (List qa)):Option qo:=match ys with
 |some ys=>bT ((En sz cJ||(xs.isEmpty&&n))&&Ep (xs.length+ys.length) 1073741824&&Ep bytes 4096&&Eu 0 sz) (I ⟨pY n sz xs ys,Eo,own,h⟩)
 |none=>Eh
@[go_sem] theorem zaf {sz bytes own n cJ xs vy}:bE sz bytes h own (I (.list n cJ xs)) (I vy)=bT (n||own.isSome) (bE.gR sz bytes h own n cJ xs (ku sz vy)):=rfl
@[go_sem] theorem j94 {sz bytes own n cJ xs ys}:bE.gR sz bytes h own n cJ xs (I ys)=bT ((En sz cJ||(xs.isEmpty&&n))&&Ep (xs.length+ys.length) 1073741824&&Ep bytes 4096&&Eu 0 sz) (I ⟨pY n sz xs ys,Eo,own,h⟩):=rfl
@[go_sem] theorem zi8 {sz bytes x y}:j8 p xc h0 al e h (.append Eh sz bytes x y)=bE sz bytes h (kn e x) (zc e x) (zc e y):=by
 simp only[j8,zh,bE,bE.gR]
 cases zc e x with
 |none=>rfl
 |some vx=>
  cases vx with
  |list n cJ xs=>
   cases zc e y with
   |none=>rfl
   |some vy=>
    simp only[bT]
    cases (n||(kn e x).isSome)with
    |false=>rfl
    |true=>
     simp only[cT]
     cases ku sz vy with
     |none=>rfl
     |some ys=>simp only[];cases ((En sz cJ||(xs.isEmpty&&n))&&Ep (xs.length+ys.length) 1073741824&&Ep bytes 4096&&Eu 0 sz)<;>rfl
  |_=>cases zc e y<;>rfl
@[go_sem] theorem Wa {z:Nat}{f:α→qa}{l}:ku z (sl z f l)=I ((l.getD []).map f):=by
 cases l<;>simp[ku,sl]
@[go_sem] theorem zcd {z b xs}:ku z (.list b z xs)=I xs:=by simp[ku]
@[go_sem] theorem zku {z z' b}:ku z (.list b z' [])=I []:=by simp[ku]
@[go_sem] theorem jxq {z xs ys}:pY Ek z xs ys=.list Ek z (xs++ys):=rfl
@[go_sem] theorem j7q {z b xs y ys}:pY b z xs (y::ys)=.list Ek z (xs++y::ys):=by cases b<;>rfl
attribute [go_sem] Option.isSome_some Option.isSome_none Bool.or_true Bool.true_or List.isEmpty_nil List.isEmpty_cons Bool.and_false Bool.false_and
def Wb (h:za)(i:Nat)(x:Option qa):Option qo:=match x with
 |some (.ay vs)=>fX h vs[i]?
 |_=>Eh
@[go_sem] theorem juz {i vs}:Wb h i (I (.ay vs))=fX h vs[i]?:=rfl
@[go_sem] theorem j85 {i x}:j8 p xc h0 al e h (.extract x i)=Wb h i (zc e x):=by
 simp only[j8,zh,Wb]
 cases zc e x with
 |none=>rfl
 |some v=>cases v<;>rfl
def Wc (op:UnOp)(h:za)(x:Option qa):Option qo:=match x with
 |some v=>fX h (xm op v)
 |none=>Eh
@[go_sem] theorem za5 {op v}:Wc op h (I v)=fX h (xm op v):=rfl
@[go_sem] theorem zml {op x}:j8 p xc h0 al e h (.un op x)=Wc op h (zc e x):=by
 simp only[j8,zh,Wc]
 cases zc e x<;>rfl
@[go_sem] theorem zls {b}:xm .not (.bool b)=I (.bool (!b)):=rfl
@[go_sem] theorem zlf {k n}:xm .neg (.int k n)=I (.int k (j6 k (0-n))):=rfl
def Wd (neq:Bool)(h:za)(x y:Option qa):Option qo:=match x,y with
 |some (.bool a),I (.bool b)=>val h (.bool (bif neq then !(a == b)else a == b))
 |_,_=>Eh
@[go_sem] theorem zar {neq a b}:Wd neq h (I (.bool a)) (I (.bool b))=I ⟨.bool (bif neq then !(a == b)else a == b),Ek,Eh,h⟩:=rfl
@[go_sem] theorem zl5 {neq x y}:j8 p xc h0 al e h (.beq neq x y)=Wd neq h (zc e x) (zc e y):=by
 simp only[j8,zh,Wd]
 cases zc e x with
 |none=>rfl
 |some v=>cases v<;>cases zc e y<;>rfl
def Wf (f:Fn)(h:za)(a b:Option (List qa)):Option qo:=match a,b with
 |some a,I b=>val h (.fn f a b)
 |_,_=>Eh
@[go_sem] theorem jti {f a b}:Wf f h (I a) (I b)=I ⟨.fn f a b,Ek,Eh,h⟩:=rfl
@[go_sem] theorem zkd {f a b}:j8 p xc h0 al e h (.fW f a b)=Wf f h (fF e a) (fF e b):=by
 simp only[j8,zh,Wf]
 cases fF e a<;>cases fF e b<;>rfl
def HO (f:qa→qa→Option qa)(h:za)(l:Option (List qa)):Option qo:=match l with
 |some (v::vs)=>fX h (nE f v vs)
 |_=>Eh
@[go_sem] theorem zbq {f v vs}:HO f h (I (v::vs))=fX h (nE f v vs):=rfl
@[go_sem] theorem zmn {l}:j8 p xc h0 al e h (.mx l)=HO max2 h (fF e l):=by
 simp only[j8,zh,HO]
 cases fF e l with
 |none=>rfl
 |some vs=>cases vs<;>rfl
@[go_sem] theorem zmo {l}:j8 p xc h0 al e h (.mn l)=HO min2 h (fF e l):=by
 simp only[j8,zh,HO]
 cases fF e l with
 |none=>rfl
 |some vs=>cases vs<;>rfl
def Wg (f:qa→qa→Option qa)(x:Option qa)(l:List qa):Option qa:=match x with
 |some z=>nE f z l
 |none=>Eh
@[go_sem] theorem j4z {f x l}:Wg f (I x) l=nE f x l:=rfl
@[go_sem] theorem zab {f x}:nE f x []=I x:=rfl
@[go_sem] theorem j62 {f x y l}:nE f x (y::l)=Wg f (f x y) l:=by
 simp only[nE,Wg];rfl
@[go_sem] theorem zjo {k x y}:max2 (.int k x) (.int k y)=I (.int k (max x y)):=by
 simp only[max2,decide_true,cT]
 congr 2
 by_cases h:y > x
 ·rw[if_pos h];omega
 ·rw[if_neg h];omega
@[go_sem] theorem zd2 {k x y}:min2 (.int k x) (.int k y)=I (.int k (min x y)):=by
 simp only[min2,decide_true,cT]
 congr 2
 by_cases h:y<x
 ·rw[if_pos h];omega
 ·rw[if_neg h];omega
def Wh (k:Nat)(neq:Bool)(h:za)(x:Option qa):Option qo:=match k,x with
  |0,I (.list n _ _)=>val h (.bool (bif neq then !n else n))
  |0,I (.ms ..)=>val h (.bool neq)
  |1,I .bN=>val h (.bool (!neq))
  |1,I (.ptr ..)=>val h (.bool neq)
  |1,I (.ah ..)=>val h (.bool neq)
  |2,I .bM=>val h (.bool (!neq))
  |2,I (.map ..)=>val h (.bool neq)
  |3,I .bX=>val h (.bool (!neq))
  |3,I (.fn ..)=>val h (.bool neq)
  |_,_=>Eh
@[go_sem] theorem zkh {k neq x}:j8 p xc h0 al e h (.eV k neq x)=Wh k neq h (zc e x):=rfl
@[go_sem] theorem j1x {neq n z xs}:Wh 0 neq h (I (.list n z xs))=I ⟨.bool (bif neq then !n else n),Ek,Eh,h⟩:=rfl
@[go_sem] theorem zav {n k i}:below n (.int k i)=Eo:=rfl
@[go_sem] theorem j7b {n b}:below n (.bool b)=Eo:=rfl
@[go_sem] theorem j9t {n s}:below n (.str s)=Eo:=rfl
@[go_sem] theorem j7z {n b z xs}:below n (.list b z xs)=zr n xs:=by simp only[below]
@[go_sem] theorem j92 {n xs}:below n (.agg xs)=zr n xs:=by simp only[below]
@[go_sem] theorem j89 {n xs}:below n (.ay xs)=zr n xs:=by simp only[below]
@[go_sem] theorem j8n {n b o}:below n (.ptr b o)=decide (b<n):=by simp only[below,vb]
@[go_sem] theorem j96 {n b}:below n (.map b)=decide (b<n):=by simp only[below,vb]
@[go_sem] theorem zjn {n k a b}:below n (.fn (.func k) a b)=(zr n a&&zr n b):=by simp only[below]
@[go_sem] theorem j2q {n}:zr n []=Eo:=by simp only[zr]
@[go_sem] theorem q6c {n x xs}:zr n (x::xs)=(below n x&&zr n xs):=by simp only[zr]
@[go_sem] theorem j2z {n i}:below n (kh i)=Eo:=rfl
@[go_sem] theorem j6s {n z l}:below n (sl z kh l)=Eo:=u0 fun _=>rfl
theorem qyj {n f}(hf:∀x,below n (f x)=Eo):∀l:List α,zr n (l.map f)=Eo
 | []=>rfl
 |x::l=>by rw[List.map_cons,q6c,hf,qyj hf l];rfl
@[go_sem] theorem jxm {n:Nat}{l:List Int}:zr n (l.map kh)=Eo:=qyj (fun _=>rfl) l
@[go_sem] theorem zkr {k i}:iH h (.int k i)=I (.int k i):=rfl
@[go_sem] theorem ze3 {b}:iH h (.bool b)=I (.bool b):=rfl
@[go_sem] theorem zko {s}:iH h (.str s)=I (.str s):=rfl
@[go_sem] theorem zdn {b z xs}:iH h (.list b z xs)=I (.list b z xs):=rfl
@[go_sem] theorem js0 {z:Nat}{f:α→qa}{l}:iH h (sl z f l)=I (sl z f l):=by cases l<;>rfl
@[go_sem] theorem zik:lu h []=I []:=rfl
@[go_sem] theorem j87 {v vs}:lu h (v::vs)=pE (iH h v) (lu h vs):=by
 simp only[lu,pE]
 cases iH h v with
 |none=>rfl
 |some x=>cases lu h vs<;>rfl
def OO (l:Option (List qa)):Option qa:=match l with
 |some xs=>I (.agg xs)
 |none=>Eh
@[go_sem] theorem zah {xs}:OO (I xs)=I (.agg xs):=rfl
@[go_sem] theorem Wi {cs}:az h (.agg cs)=OO (lu h cs):=by
 simp only[az,OO]
 cases lu h cs<;>rfl
@[go_sem] theorem zbn {k i}:az h (.int k i)=I (.int k i):=rfl
@[go_sem] theorem j8s {b}:az h (.bool b)=I (.bool b):=rfl
@[go_sem] theorem zc3 {s}:az h (.str s)=I (.str s):=rfl
@[go_sem] theorem j9l {b z xs}:az h (.list b z xs)=I (.list b z xs):=rfl
@[go_sem] theorem zk3 {z:Nat}{f:α→qa}{l}:az h (sl z f l)=I (sl z f l):=by cases l<;>rfl
def Wj (l:Option (List qa)):Option qa:=match l with
 |some xs=>I (.ay xs)
 |none=>Eh
@[go_sem] theorem j80 {xs}:Wj (I xs)=I (.ay xs):=rfl
@[go_sem] theorem zeb {cs}:az h (.ay cs)=Wj (az.bm h cs):=by
 simp only[az,Wj]
 cases az.bm h cs<;>rfl
@[go_sem] theorem zbb:az.bm h []=I []:=rfl
@[go_sem] theorem zbv {cs vs}:az.bm h (.agg cs::vs)=pE (OO (lu h cs)) (az.bm h vs):=by
 rw[az.bm]
 cases lu h cs with
 |none=>rfl
 |some x=>cases az.bm h vs<;>rfl
theorem HP {v vs}(hv:v.isAgg=Ek):az.bm h (v::vs)=pE (iH h v) (az.bm h vs):=by
 have:∀cs,v≠.agg cs:=fun cs hc=>by rw[hc]at hv;cases hv
 rw[az.bm]
 ·cases iH h v with
  |none=>rfl
  |some x=>cases az.bm h vs<;>rfl
 ·exact this
@[go_sem] theorem zjc {k i vs}:az.bm h (.int k i::vs)=pE (I (.int k i)) (az.bm h vs):=HP rfl
@[go_sem] theorem j8w {b vs}:az.bm h (.bool b::vs)=pE (I (.bool b)) (az.bm h vs):=HP rfl
@[go_sem] theorem zgf {s vs}:az.bm h (.str s::vs)=pE (I (.str s)) (az.bm h vs):=HP rfl
@[go_sem] theorem j98 {b z xs vs}:az.bm h (.list b z xs::vs)=pE (I (.list b z xs)) (az.bm h vs):=HP rfl
@[go_sem] theorem zkk {z:Nat}{f:α→qa}{l vs}:az.bm h (sl z f l::vs)=pE (I (sl z f l)) (az.bm h vs):=by
 rw[HP (by cases l<;>rfl),js0]
attribute [go_sem] List.contains_cons List.contains_nil
@[go_sem] theorem zk4 {a b:Nat}:(a == b)=decide (a=b):=by
 by_cases qA:a=b<;>simp[qA]
def HQ (agg:Bool)(c:Option (qa×Bool))(vs:Option (List qa)):Option (qa×Bool):=match vs,agg with
 |some vs,Eo=>I (.agg vs,Ek)
 |some _,Ek=>c
 |none,_=>Eh
@[go_sem] theorem j8l {c vs}:HQ Eo c (I vs)=I (.agg vs,Ek):=rfl
@[go_sem] theorem zac {c vs}:HQ Ek c (I vs)=c:=rfl
def OP (agg:Bool)(o n:Nat)(cs:Option (List (qa×Bool))):Option (qa×Bool):=match cs with
 |some cs=>HQ agg cs[o]? (kf cs o n)
 |none=>Eh
@[go_sem] theorem jz7 {agg o n cs}:OP agg o n (I cs)=HQ agg cs[o]? (kf cs o n):=rfl
def Wk (agg:Bool)(n:Nat)(h:za)(x:Option (qa×Bool)):Option (qa×Bool):=match x with
 |some (.ptr b o,_)=>OP agg o n (ym h b)
 |_=>Eh
@[go_sem] theorem zax {agg n b o w}:Wk agg n h (I (.ptr b o,w))=OP agg o n (ym h b):=rfl
@[go_sem] theorem jpf {t n agg}:uG ⟨e,h⟩ (.cell t agg n)=Wk agg n h (yd t e):=by
 simp only[uG,Wk]
 cases yd t e with
 |none=>rfl
 |some x=>
  obtain⟨v,w⟩:=x
  cases v with
  |ptr b o=>
   simp only[OP]
   cases ym h b with
   |none=>rfl
   |some cs=>
    simp only[HQ]
    cases kf cs o n with
    |none=>rfl
    |some vs=>cases agg with
     |true=>rfl
     |false=>simp only[cond_false];cases cs[o]?<;>rfl
  |_=>rfl
theorem kr {k args v v' o}(hp:p.cn k=Eh)(hc:ze p xc k args []=I (v,o,h))(hz:az h v=I v')(hv:below 0 v'=Eo):jy p xc k args=I (v',o&&v.ct):=by
 unfold jy
 rw[hp]
 simp only[hc,hz,l5,hv,cT]
end
end Go.Abs
