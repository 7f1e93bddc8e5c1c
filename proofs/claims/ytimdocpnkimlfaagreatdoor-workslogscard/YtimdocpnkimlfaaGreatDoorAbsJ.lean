/- Equations of the executor, second part. -/
import Derived.Test.YtimdocpnkimlfaaGreatDoorAbsI
set_option linter.unusedVariables false
set_option linter.unusedSimpArgs false
open Option renaming some→I,none→Ea
open Bool renaming false→Eb,true→Ek
open Nat renaming beq→Ec,ble→En,blt→E3,eq_of_beq_eq_true→Ga
namespace Go.Abs
section
variable {p:jg}{xc:XC}{h0:Nat}{al:Option (List Nat)}{e:Env}{h:ql}{α:Type}
attribute [go_sem] List.getElem?_cons_zero List.getElem?_cons_succ List.getElem?_nil List.set_cons_zero List.set_cons_succ List.set_nil List.cons_append List.replicate_zero List.replicate_succ List.map_cons List.map_nil List.all_cons List.all_nil List.drop_zero List.drop_succ_cons List.take_zero List.take_succ_cons List.drop_nil List.take_nil Bool.and_true Bool.true_and Bool.or_false Bool.false_or Bool.and_self List.headD_cons List.foldl_cons List.foldl_nil List.flatMap_cons List.flatMap_nil
@[go_sem] theorem j4f {k n}:qk (.int k n)=Ek:=rfl
@[go_sem] theorem j3o {b}:qk (.bool b)=Ek:=rfl
@[go_sem] theorem j4d {s}:qk (.str s)=Ek:=rfl
@[go_sem] theorem j3j {b z xs}:qk (.list b z xs)=Ek:=rfl
@[go_sem] theorem j46 {b o n}:qk (.ms b o n)=Ek:=rfl
@[go_sem] theorem j4u {b o}:qk (.ptr b o)=Ek:=rfl
@[go_sem] theorem j4q {b}:qk (.map b)=Ek:=rfl
@[go_sem] theorem jut:qk .bC=Ek:=rfl
@[go_sem] theorem jv1:qk .bB=Ek:=rfl
@[go_sem] theorem j0l:qk .bN=Ek:=rfl
@[go_sem] theorem j5c {f a b}:qk (.fn f a b)=Ek:=rfl
@[go_sem] theorem j42 {z:Nat}{f:α→AVal}{l}:qk (sl z f l)=Ek:=by cases l<;>rfl
@[go_sem] theorem j09 {cs}:AVal.flat (.agg cs)=cs:=rfl
@[go_sem] theorem jxe {k n}:AVal.flat (.int k n)=[.int k n]:=rfl
@[go_sem] theorem jvy {b}:AVal.flat (.bool b)=[.bool b]:=rfl
@[go_sem] theorem jyr {s}:AVal.flat (.str s)=[.str s]:=rfl
@[go_sem] theorem jwc {b z xs}:AVal.flat (.list b z xs)=[.list b z xs]:=rfl
@[go_sem] theorem j3k {z:Nat}{f:α→AVal}{l}:AVal.flat (sl z f l)=[sl z f l]:=by cases l<;>rfl
@[go_sem] theorem jx5 {b o}:AVal.flat (.ptr b o)=[.ptr b o]:=rfl
@[go_sem] theorem jxk {b}:AVal.flat (.map b)=[.map b]:=rfl
@[go_sem] theorem j3h {f a b}:AVal.flat (.fn f a b)=[.fn f a b]:=rfl
@[go_sem] theorem j37 {b o n}:AVal.flat (.ms b o n)=[.ms b o n]:=rfl
@[go_sem] theorem Ip {a b}:Ec a b=decide (a=b):=by
 cases h:Ec a b with
 |true=>have:=Ga h;simp[this]
 |false=>
  have:a≠b:=fun hh=>by subst hh;simp at h
  simp[this]
@[go_sem] theorem kn {a b}:En a b=decide (a≤b):=by
 cases h:En a b with
 |true=>have:=Nat.le_of_ble_eq_true h;simp[this]
 |false=>
  have:¬a≤b:=fun hh=>by rw[Nat.ble_eq_true_of_le hh]at h;cases h
  simp[this]
@[go_sem] theorem qX {a b}:E3 a b=decide (a<b):=by
 show En (a+1) b=_
 rw[kn];rfl
@[go_sem] theorem ju7 {b}:jm h0 Ea b=Ek:=rfl
@[go_sem] theorem j3i:mZ []=Eb:=rfl
@[go_sem] theorem jz0 {k l}:mZ (k::l)=decide (1000≤k):=by simp only[mZ,kn]
@[go_sem] theorem jz4 {k b l}:uM h0 (k::l) b=cond (decide (k<2000)) (decide (b=k-1000)&&decide (b<h0)) (cond (decide (k<4000)) (decide (b=h0+(k-2000))) (decide (b<h0))):=by
 have e:∀x y:Nat,Ec x y=decide (x=y):=fun x y=>by
  cases h:Ec x y with
  |true=>rw[Ga h];simp
  |false=>
   have:x≠y:=fun e=>by rw[e,Nat.beq_refl]at h;cases h
   simp[this]
 simp only[uM,qX,e]
@[go_sem] theorem joy {b l}:jm h0 (I l) b=cond (mZ l) (uM h0 l b) (decide (b<h0)||l.contains (b-h0)):=by simp only[jm,qX]
def gY (r:Option ql)(v:AVal):Option aK:=match r with
 |some h'=>I ⟨v,Eb,Ea,h'⟩
 |none=>Ea
@[go_sem] theorem jwd {v}:gY (I h) v=I ⟨v,Eb,Ea,h⟩:=rfl
@[go_sem] theorem jup {h0 r es}:Io h0 r h Ek (I es)=gY (aG h0 h r (.map es)) (.map (h0+r)):=rfl
def PS (n:Nat)(h:ql)(b:Option aJ)(x:aJ):Option ql:=match b with
 |some .hole=>I (h.set n x)
 |_=>Ea
@[go_sem] theorem jun {n x}:PS n h (I .hole) x=I (h.set n x):=rfl
@[go_sem] theorem jv8 {r x}:aG h0 h r x=PS (h0+r) h h[h0+r]? x:=by
 unfold aG PS;rfl
def cj (b:Bool)(r:Option aK):Option aK:=match b with
 |true=>r
 |false=>Ea
@[go_sem] theorem jy4 {r}:cj Ek r=r:=rfl
@[go_sem] theorem j3x {r z}:qb p xc h0 al e h (.alloc r z)=cj (z.all qk) (gY (aG h0 h r (.cells (cellsOf z))) (.ptr (h0+r) 0)):=by
 simp only[qb,qp,cj]
 cases z.all qk with
 |false=>rfl
 |true=>simp only[cond_true,gY];cases aG h0 h r (.cells (cellsOf z))<;>rfl
def PT (n:Nat)(h:ql)(x:Option AVal):Option aK:=match x with
 |some v=>cj (Ec v.flat.length n&&v.flat.all qk) (I ⟨.ax v,Eb,Ea,h⟩)
 |none=>Ea
@[go_sem] theorem jns {n v}:PT n h (I v)=cj (Ec v.flat.length n&&v.flat.all qk) (I ⟨.ax v,Eb,Ea,h⟩):=rfl
@[go_sem] theorem j4g {n x}:qb p xc h0 al e h (.mW n x)=PT n h (qg e x):=by
 simp only[qb,qo,PT]
 cases qg e x with
 |none=>rfl
 |some v=>
  simp only[cj]
  cases (Ec v.flat.length n&&v.flat.all qk)<;>rfl
def PU (h0 r n:Nat)(h:ql)(x:Option AVal):Option aK:=match x with
 |some v=>cj (Ec v.flat.length n&&v.flat.all qk) (gY (aG h0 h r (.cells (cellsOf v.flat))) (.ptr (h0+r) 0))
 |none=>Ea
@[go_sem] theorem jv9 {r n v}:PU h0 r n h (I v)=cj (Ec v.flat.length n&&v.flat.all qk) (gY (aG h0 h r (.cells (cellsOf v.flat))) (.ptr (h0+r) 0)):=rfl
@[go_sem] theorem j5k {r n x}:qb p xc h0 al e h (.box r n x)=PU h0 r n h (qg e x):=by
 simp only[qb,qp,PU]
 cases qg e x with
 |none=>rfl
 |some v=>
  simp only[cj,gY]
  cases (Ec v.flat.length n&&v.flat.all qk)with
  |false=>rfl
  |true=>simp only[cond_true];cases aG h0 h r (.cells (cellsOf v.flat))<;>rfl
@[go_sem] theorem j39 {r}:qb p xc h0 al e h (.dD r)=gY (aG h0 h r (.map [])) (.map (h0+r)):=by
 simp only[qb,qp,gY]
 cases aG h0 h r (.map [])<;>rfl
@[go_sem] theorem jmd:cellsOf []=[]:=rfl
@[go_sem] theorem jk9 {v vs}:cellsOf (v::vs)=(v,Eb)::cellsOf vs:=rfl
def qY (agg:Bool)(h:ql)(r:Option AVal):Option aK:=match r with
 |some v=>bif Bool.xor agg v.isAgg then Ea else val h (.ax v)
 |none=>Ea
def Bz (agg:Bool)(off n:Nat)(h:ql)(x:Option AVal):Option aK:=match x with
 |some (.ptr b o)=>val h (.ptr b (o+off))
 |some (.ax (.agg cs))=>qY agg h (part agg cs off n)
 |some (.dK b bm o)=>val h (.dK b bm (o+off))
 |_=>Ea
@[go_sem] theorem jfo {agg off n b v o}:Bz agg off n h (I (.dK b v o))=I ⟨.dK b v (o+off),Eb,Ea,h⟩:=rfl
@[go_sem] theorem jfn {agg off n b o}:Bz agg off n h (I (.ptr b o))=I ⟨.ptr b (o+off),Eb,Ea,h⟩:=rfl
@[go_sem] theorem jfe {agg off n cs}:Bz agg off n h (I (.ax (.agg cs)))=qY agg h (part agg cs off n):=rfl
@[go_sem] theorem jlm {agg off n x}:qb p xc h0 al e h (.fieldAddr agg off n x)=Bz agg off n h (qg e x):=by
 simp only[qb,qo,Bz]
 cases qg e x with
 |none=>rfl
 |some v=>cases v with
  |ax v=>cases v<;>rfl
  |_=>rfl
def j4n (v:AVal):Prop:=v.isAgg=Eb
theorem jux {v}(hv:v.isAgg=Eb):qY Eb h (I v)=I ⟨.ax v,Eb,Ea,h⟩:=by simp[qY,hv,val]
@[go_sem] theorem jt8 {k n}:qY Eb h (I (.int k n))=I ⟨.ax (.int k n),Eb,Ea,h⟩:=rfl
@[go_sem] theorem ju9 {s}:qY Eb h (I (.str s))=I ⟨.ax (.str s),Eb,Ea,h⟩:=rfl
@[go_sem] theorem jpl {b}:qY Eb h (I (.bool b))=I ⟨.ax (.bool b),Eb,Ea,h⟩:=rfl
@[go_sem] theorem j2a {z:Nat}{f:α→AVal}{l}:qY Eb h (I (sl z f l))=I ⟨.ax (sl z f l),Eb,Ea,h⟩:=by cases l<;>rfl
@[go_sem] theorem jvs {cs}:qY Ek h (I (.agg cs))=I ⟨.ax (.agg cs),Eb,Ea,h⟩:=rfl
@[go_sem] theorem jx9 {cs off n}:part Eb cs off n=cs[off]?:=rfl
def PV (b:Bool)(cs:List AVal)(off n:Nat):Option AVal:=match b with
 |true=>I (.agg ((cs.drop off).take n))
 |false=>Ea
@[go_sem] theorem jtj {cs off n}:PV Ek cs off n=I (.agg ((cs.drop off).take n)):=rfl
@[go_sem] theorem jy2 {cs off n}:part Ek cs off n=PV (decide (off+n≤cs.length)) cs off n:=by
 simp only[part,PV,cond_true,kn]
 cases decide (off+n≤cs.length)<;>rfl
@[go_sem] theorem jx2 {z:Nat}{f:α→AVal}{l}:y8 h0 al Eb 1 h (I (.ax (sl z f l)))=I ⟨sl z f l,Eb,Ea,h⟩:=by cases l<;>rfl
def PW (h:ql)(cs:List AVal)(b:Bool):Option aK:=match b with
 |true=>I ⟨.agg cs,Eb,Ea,h⟩
 |false=>Ea
@[go_sem] theorem jv3 {cs}:PW h cs Ek=I ⟨.agg cs,Eb,Ea,h⟩:=rfl
@[go_sem] theorem jqj {n cs}:y8 h0 al Ek n h (I (.ax (.agg cs)))=PW h cs (decide (cs.length=n)):=by
 unfold PW
 by_cases hn:cs.length=n
 ·rw[q47 hn];simp[hn]
 ·simp[y8,AVal.isAgg,AVal.flat,hn,Ip]
def Es (agg:Bool)(h:ql)(vs:Option (List AVal)):Option aK:=match vs with
 |some vs=>bif agg then val h (.agg vs)else(match vs with
  | [v]=>val h v
  |_=>Ea)
 |none=>Ea
@[go_sem] theorem j1s {vs}:Es Ek h (I vs)=I ⟨.agg vs,Eb,Ea,h⟩:=rfl
@[go_sem] theorem jz3 {v}:Es Eb h (I [v])=I ⟨v,Eb,Ea,h⟩:=rfl
def PX (b:Option aJ):Option (List (AVal×Bool)):=match b with
 |some (.cells cs)=>I cs
 |_=>Ea
@[go_sem] theorem jls {cs}:PX (I (.cells cs))=I cs:=rfl
@[go_sem] theorem jly {b}:ji h b=PX h[b]?:=by unfold ji PX;rfl
def PY (b:Bool)(cs:List (AVal×Bool))(off n:Nat):Option (List AVal):=match b with
 |true=>I (((cs.drop off).take n).map (·.1))
 |false=>Ea
@[go_sem] theorem jy8 {cs off n}:PY Ek cs off n=I (((cs.drop off).take n).map (·.1)):=rfl
@[go_sem] theorem jir {cs off n}:zp cs off n=PY (decide (off+n≤cs.length)) cs off n:=by
 simp only[zp,PY,kn]
 cases decide (off+n≤cs.length)<;>rfl
def PZ (agg:Bool)(o n:Nat)(h:ql)(cs:Option (List (AVal×Bool))):Option aK:=match cs with
 |some cs=>Es agg h (zp cs o n)
 |none=>Ea
@[go_sem] theorem ju1 {agg o n cs}:PZ agg o n h (I cs)=Es agg h (zp cs o n):=rfl
@[go_sem] theorem jvk {agg n b o}:y8 h0 al agg n h (I (.ptr b o))=cj (jm h0 al b) (PZ agg o n h (ji h b)):=by
 simp only[y8,cj,PZ,Es]
 cases jm h0 al b with
 |false=>rfl
 |true=>
  simp only[cond_true]
  cases ji h b with
  |none=>rfl
  |some cs=>simp only[];cases zp cs o n<;>rfl
def Iq (r:Option ql)(v:AVal)(w:Bool):Option aK:=match r with
 |some h'=>I ⟨v,w,Ea,h'⟩
 |none=>Ea
@[go_sem] theorem jrr {v w}:Iq (I h) v w=I ⟨v,w,Ea,h⟩:=rfl
def Ir (h:ql)(b o:Nat)(cs:List (AVal×Bool))(x:Option (AVal×Bool)):Option aK:=match x with
 |some (v,w)=>Iq (jh h b (.cells (cs.set o (v,Eb)))) v w
 |none=>Ea
@[go_sem] theorem jng {b o cs v w}:Ir h b o cs (I (v,w))=Iq (jh h b (.cells (cs.set o (v,Eb)))) v w:=rfl
def Iu (h:ql)(b o:Nat)(cs:Option (List (AVal×Bool))):Option aK:=match cs with
 |some cs=>Ir h b o cs cs[o]?
 |none=>Ea
@[go_sem] theorem jty {b o cs}:Iu h b o (I cs)=Ir h b o cs cs[o]?:=rfl
def P0 (h0:Nat)(al:Option (List Nat))(off:Option Nat)(h:ql)(x:Option AVal):Option aK:=match x with
 |some (.ptr b o)=>cj (jm h0 al b&&qD off o) (Iu h b o (ji h b))
 |_=>Ea
@[go_sem] theorem jfi {off b o}:P0 h0 al off h (I (.ptr b o))=cj (jm h0 al b&&qD off o) (Iu h b o (ji h b)):=rfl
@[go_sem] theorem jsc {o}:qD Ea o=Ek:=rfl
@[go_sem] theorem jne {a o}:qD (I a) o=decide (a=o):=by simp only[qD,Ip]
@[go_sem] theorem jnn {off x}:qb p xc h0 al e h (.bS off x)=P0 h0 al off h (qg e x):=by
 simp only[qb,qp,P0]
 cases qg e x with
 |none=>rfl
 |some v=>cases v with
  |ptr b o=>
   simp only[cj,Iu,Ir,Iq]
   cases (jm h0 al b&&qD off o)with
   |false=>rfl
   |true=>
    simp only[cond_true]
    cases ji h b with
    |none=>rfl
    |some cs=>
     simp only[]
     cases cs[o]? with
     |none=>rfl
     |some c=>
      obtain⟨v,w⟩:=c
      simp only[]
      cases jh h b (.cells (cs.set o (v,Eb)))<;>rfl
  |_=>rfl
def P1 (b:Bool)(n:Nat)(x:aJ)(h:ql):Option ql:=match b with
 |true=>I (h.set n x)
 |false=>Ea
@[go_sem] theorem jvw {n x}:P1 Ek n x h=I (h.set n x):=rfl
@[go_sem] theorem juk {b x}:jh h b x=P1 (decide (b<h.length)) b x h:=by
 simp only[jh,P1,qX]
 cases decide (b<h.length)<;>rfl
def P2 (b:Bool)(cs:List (AVal×Bool))(off:Nat)(vs:List AVal):Option (List (AVal×Bool)):=match b with
 |true=>I (cs.take off++vs.map (·,Eb)++cs.drop (off+vs.length))
 |false=>Ea
@[go_sem] theorem jzj {cs off vs}:P2 Ek cs off vs=I (cs.take off++vs.map (·,Eb)++cs.drop (off+vs.length)):=rfl
@[go_sem] theorem jfj {cs off vs}:z7 cs off vs=P2 (decide (off+vs.length≤cs.length)&&vs.all qk) cs off vs:=by
 simp only[z7,P2,kn]
 cases (decide (off+vs.length≤cs.length)&&vs.all qk)<;>rfl
def j5n (e:Env)(x:jd):Option Nat:=jy e x
def Iw (t:Nat)(x:Option (AVal×Bool)):Option Nat:=match x with
 |some (_,Ek)=>I t
 |_=>Ea
@[go_sem] theorem jvv {t v}:Iw t (I (v,Ek))=I t:=rfl
@[go_sem] theorem jrx {t v}:Iw t (I (v,Eb))=Ea:=rfl
@[go_sem] theorem jur {t}:jy e (.tmp t)=Iw t (ja t e):=by
 simp only[jy,Iw];rfl
@[go_sem] theorem jl5 {v}:jy e (.const v)=Ea:=rfl
def Ix (h:ql)(b:Nat)(cs:Option (List (AVal×Bool))):Option aK:=match cs with
 |some dV=>gY (jh h b (.cells dV)) .undef
 |none=>Ea
@[go_sem] theorem ji0 {b cs}:Ix h b (I cs)=gY (jh h b (.cells cs)) .undef:=rfl
def Iy (t:Nat)(r:Option ql):Option aK:=match r with
 |some h'=>I ⟨.undef,Eb,I t,h'⟩
 |none=>Ea
@[go_sem] theorem jtm {t}:Iy t (I h)=I ⟨.undef,Eb,I t,h⟩:=rfl
def Et (n:Nat)(h:ql)(b o:Nat)(v:AVal)(own:Option Nat)(cs:Option (List (AVal×Bool))):Option aK:=match cs,own with
 |some cs,I t=>cj (Ec n 1&&v.b6&&E3 o cs.length) (Iy t (jh h b (.cells (cs.set o (v,Ek)))))
 |some cs,Ea=>cj (Ec v.flat.length n) (Ix h b (z7 cs o v.flat))
 |none,_=>Ea
@[go_sem] theorem jnq {n b o t v cs}:Et n h b o v (I t) (I cs)=cj (Ec n 1&&v.b6&&E3 o cs.length) (Iy t (jh h b (.cells (cs.set o (v,Ek))))):=rfl
@[go_sem] theorem jjp {n b o v cs}:Et n h b o v Ea (I cs)=cj (Ec v.flat.length n) (Ix h b (z7 cs o v.flat)):=rfl
def P3 (h0:Nat)(al:Option (List Nat))(n:Nat)(h:ql)(own:Option Nat)(a x:Option AVal):Option aK:=match a,x with
 |some (.ptr b o),I v=>cj (jm h0 al b) (Et n h b o v own (ji h b))
 |_,_=>Ea
@[go_sem] theorem jo3 {n b o own v}:P3 h0 al n h own (I (.ptr b o)) (I v)=cj (jm h0 al b) (Et n h b o v own (ji h b)):=rfl
@[go_sem] theorem j3p {n a x}:qb p xc h0 al e h (.store n a x)=P3 h0 al n h (jy e x) (qg e a) (qg e x):=by
 simp only[qb,qp,P3]
 cases qg e a with
 |none=>rfl
 |some va=>
  cases va with
  |ptr b o=>
   cases qg e x with
   |none=>rfl
   |some v=>
    simp only[cj]
    cases jm h0 al b with
    |false=>rfl
    |true=>
     simp only[cond_true]
     cases ji h b with
     |none=>rfl
     |some cs=>
      simp only[Et]
      cases jy e x with
      |none=>
       simp only[cj,Ix,gY]
       cases Ec v.flat.length n with
       |false=>rfl
       |true=>
        simp only[cond_true]
        cases z7 cs o v.flat with
        |none=>rfl
        |some dV=>simp only[];cases jh h b (.cells dV)<;>rfl
      |some t=>
       simp only[cj,Iy]
       cases (Ec n 1&&v.b6&&E3 o cs.length)with
       |false=>rfl
       |true=>simp only[cond_true];cases jh h b (.cells (cs.set o (v,Ek)))<;>rfl
  |_=>rfl
@[go_sem] theorem jmf {b z xs}:AVal.b6 (.list b z xs)=Ek:=rfl
@[go_sem] theorem jvj {z:Nat}{f:α→AVal}{l}:AVal.b6 (sl z f l)=Ek:=by cases l<;>rfl
def Iz (b:Bool)(off:Nat)(vs:List AVal)(l:Option (List (Nat×List AVal))):Option (List (Nat×List AVal)):=match b,l with
 |true,I r=>I ((off,vs)::r)
 |_,_=>Ea
@[go_sem] theorem jmj {off vs r}:Iz Ek off vs (I r)=I ((off,vs)::r):=rfl
def P4 (x:Option AVal)(off n:Nat)(l:Option (List (Nat×List AVal))):Option (List (Nat×List AVal)):=match x with
 |some v=>Iz (Ec v.flat.length n&&v.flat.all qk) off v.flat l
 |none=>Ea
@[go_sem] theorem jlr {v off n l}:P4 (I v) off n l=Iz (Ec v.flat.length n&&v.flat.all qk) off v.flat l:=rfl
@[go_sem] theorem jfk:z8 e []=I []:=rfl
@[go_sem] theorem jdv {off n x l}:z8 e ((off,n,x)::l)=P4 (qg e x) off n (z8 e l):=by
 simp only[z8,P4,Iz]
 cases qg e x with
 |none=>rfl
 |some v=>simp only[];cases (Ec v.flat.length n&&v.flat.all qk)<;>cases z8 e l<;>rfl
def iN (h:ql)(zero:List AVal)(ps:Option (List (Nat×List AVal))):Option aK:=match ps with
 |some ps=>mJ h (iD zero ps)
 |none=>Ea
where mJ (h:ql) (r:Option (List AVal)):Option aK:=match r with
 |some cs=>I ⟨.agg cs,Eb,Ea,h⟩
 |none=>Ea
@[go_sem] theorem jn2 {zero ps}:iN h zero (I ps)=iN.mJ h (iD zero ps):=rfl
@[go_sem] theorem jqe {cs}:iN.mJ h (I cs)=I ⟨.agg cs,Eb,Ea,h⟩:=rfl
@[go_sem] theorem j33 {zero ps}:qb p xc h0 al e h (.build zero ps)=iN h zero (z8 e ps):=by
 simp only[qb,qo,iN,iN.mJ]
 cases z8 e ps with
 |none=>rfl
 |some ps=>simp only[];cases iD zero ps<;>rfl
@[go_sem] theorem jv4 {cs}:iD cs []=I cs:=rfl
def P5 (b:Bool)(cs:List AVal)(off:Nat)(vs:List AVal)(l:List (Nat×List AVal)):Option (List AVal):=match b with
 |true=>iD (cs.take off++vs++cs.drop (off+vs.length)) l
 |false=>Ea
@[go_sem] theorem jq4 {cs off vs l}:P5 Ek cs off vs l=iD (cs.take off++vs++cs.drop (off+vs.length)) l:=rfl
@[go_sem] theorem jtv {cs off vs l}:iD cs ((off,vs)::l)=P5 (decide (off+vs.length≤cs.length)) cs off vs l:=by
 simp only[iD,P5,kn]
 cases decide (off+vs.length≤cs.length)<;>rfl
def fT (x:Option AVal)(i sz:Nat)(l:Option (List (Nat×AVal))):Option (List (Nat×AVal)):=match x with
 |some v=>jJ (Ec v.flat.length sz&&v.flat.all qk) i v l
 |none=>Ea
where jJ (b:Bool) (i:Nat) (v:AVal) (l:Option (List (Nat×AVal))):Option (List (Nat×AVal)):=match b,l with
 |true,I r=>I ((i,v)::r)
 |_,_=>Ea
@[go_sem] theorem jlo {v i sz l}:fT (I v) i sz l=fT.jJ (Ec v.flat.length sz&&v.flat.all qk) i v l:=rfl
@[go_sem] theorem jlw {v i r}:fT.jJ Ek i v (I r)=I ((i,v)::r):=rfl
@[go_sem] theorem jfp {sz}:zh e sz []=I []:=rfl
@[go_sem] theorem jej {sz i x l}:zh e sz ((i,x)::l)=fT (qg e x) i sz (zh e sz l):=by
 simp only[zh,fT,fT.jJ]
 cases qg e x with
 |none=>rfl
 |some v=>simp only[];cases (Ec v.flat.length sz&&v.flat.all qk)<;>cases zh e sz l<;>rfl
@[go_sem] theorem ju5 {xs}:kB xs []=I xs:=rfl
def P6 (b:Bool)(xs:List AVal)(i:Nat)(v:AVal)(l:List (Nat×AVal)):Option (List AVal):=match b with
 |true=>kB (xs.set i v) l
 |false=>Ea
@[go_sem] theorem jlq {xs i v l}:P6 Ek xs i v l=kB (xs.set i v) l:=rfl
@[go_sem] theorem jp2 {xs i v l}:kB xs ((i,v)::l)=P6 (decide (i<xs.length)) xs i v l:=by
 simp only[kB,P6,qX]
 cases decide (i<xs.length)<;>rfl
def fU (sz:Nat)(h:ql)(xs:List AVal)(ps:Option (List (Nat×AVal))):Option aK:=match ps with
 |some ps=>jK sz h (kB xs ps)
 |none=>Ea
where jK (sz:Nat) (h:ql) (r:Option (List AVal)):Option aK:=match r with
 |some xs=>I ⟨.list Eb sz xs,Ek,Ea,h⟩
 |none=>Ea
@[go_sem] theorem jme {sz xs ps}:fU sz h xs (I ps)=fU.jK sz h (kB xs ps):=rfl
@[go_sem] theorem jmo {sz xs}:fU.jK sz h (I xs)=I ⟨.list Eb sz xs,Ek,Ea,h⟩:=rfl
@[go_sem] theorem jjg {sz len zero ps}:qb p xc h0 al e h (.buildSlice sz len zero ps)=fU sz h (List.replicate len (bif Ec sz 1 then zero.headD .undef else .agg zero)) (zh e sz ps):=by
 simp only[qb,qo,fU,fU.jK]
 cases zh e sz ps with
 |none=>rfl
 |some ps=>simp only[];cases kB (List.replicate len (bif Ec sz 1 then zero.headD .undef else .agg zero)) ps<;>rfl
def bZ (sz bytes:Nat)(h:ql)(own:Option Nat)(x y:Option AVal):Option aK:=match x,y with
 |some (.list n cD xs),I vy=>cj (n||own.isSome) (gB sz bytes h own n cD xs (j9 sz vy))
 |_,_=>Ea
where gB (sz bytes:Nat) (h:ql) (own:Option Nat) (n:Bool) (cD:Nat) (xs:List AVal) (ys:Option (List AVal)):Option aK:=match ys with
 |some ys=>cj ((Ec sz cD||(xs.isEmpty&&n))&&En (xs.length+ys.length) 1073741824&&En bytes 4096&&E3 0 sz) (I ⟨ol n sz xs ys,Ek,own,h⟩)
 |none=>Ea
@[go_sem] theorem juo {sz bytes own n cD xs vy}:bZ sz bytes h own (I (.list n cD xs)) (I vy)=cj (n||own.isSome) (bZ.gB sz bytes h own n cD xs (j9 sz vy)):=rfl
@[go_sem] theorem ju8 {sz bytes own n cD xs ys}:bZ.gB sz bytes h own n cD xs (I ys)=cj ((Ec sz cD||(xs.isEmpty&&n))&&En (xs.length+ys.length) 1073741824&&En bytes 4096&&E3 0 sz) (I ⟨ol n sz xs ys,Ek,own,h⟩):=rfl
@[go_sem] theorem jw5 {sz bytes x y}:qb p xc h0 al e h (.append Ea sz bytes x y)=bZ sz bytes h (jy e x) (qg e x) (qg e y):=by
 simp only[qb,qo,bZ,bZ.gB]
 cases qg e x with
 |none=>rfl
 |some vx=>
  cases vx with
  |list n cD xs=>
   cases qg e y with
   |none=>rfl
   |some vy=>
    simp only[cj]
    cases (n||(jy e x).isSome)with
    |false=>rfl
    |true=>
     simp only[cond_true]
     cases j9 sz vy with
     |none=>rfl
     |some ys=>simp only[];cases ((Ec sz cD||(xs.isEmpty&&n))&&En (xs.length+ys.length) 1073741824&&En bytes 4096&&E3 0 sz)<;>rfl
  |_=>cases qg e y<;>rfl
@[go_sem] theorem ZI {z:Nat}{f:α→AVal}{l}:j9 z (sl z f l)=I ((l.getD []).map f):=by
 cases l<;>simp[j9,sl]
@[go_sem] theorem j0v {z b xs}:j9 z (.list b z xs)=I xs:=by simp[j9]
@[go_sem] theorem j3r {z z' b}:j9 z (.list b z' [])=I []:=by simp[j9]
@[go_sem] theorem jlt {z xs ys}:ol Eb z xs ys=.list Eb z (xs++ys):=rfl
@[go_sem] theorem jq9 {z b xs y ys}:ol b z xs (y::ys)=.list Eb z (xs++y::ys):=by cases b<;>rfl
attribute [go_sem] Option.isSome_some Option.isSome_none Bool.or_true Bool.true_or List.isEmpty_nil List.isEmpty_cons Bool.and_false Bool.false_and
def P7 (h:ql)(i:Nat)(x:Option AVal):Option aK:=match x with
 |some (.av vs)=>kl h vs[i]?
 |_=>Ea
@[go_sem] theorem jgv {i vs}:P7 h i (I (.av vs))=kl h vs[i]?:=rfl
@[go_sem] theorem jwl {i x}:qb p xc h0 al e h (.extract x i)=P7 h i (qg e x):=by
 simp only[qb,qo,P7]
 cases qg e x with
 |none=>rfl
 |some v=>cases v<;>rfl
def P8 (op:UnOp)(h:ql)(x:Option AVal):Option aK:=match x with
 |some v=>kl h (s7 op v)
 |none=>Ea
@[go_sem] theorem jwy {op v}:P8 op h (I v)=kl h (s7 op v):=rfl
@[go_sem] theorem j5m {op x}:qb p xc h0 al e h (.un op x)=P8 op h (qg e x):=by
 simp only[qb,qo,P8]
 cases qg e x<;>rfl
@[go_sem] theorem j4o {b}:s7 .not (.bool b)=I (.bool (!b)):=rfl
@[go_sem] theorem j4k {k n}:s7 .neg (.int k n)=I (.int k (qh k (0-n))):=rfl
def P9 (neq:Bool)(h:ql)(x y:Option AVal):Option aK:=match x,y with
 |some (.bool a),I (.bool b)=>val h (.bool (bif neq then !(a == b)else a == b))
 |_,_=>Ea
@[go_sem] theorem jwn {neq a b}:P9 neq h (I (.bool a)) (I (.bool b))=I ⟨.bool (bif neq then !(a == b)else a == b),Eb,Ea,h⟩:=rfl
@[go_sem] theorem j5h {neq x y}:qb p xc h0 al e h (.beq neq x y)=P9 neq h (qg e x) (qg e y):=by
 simp only[qb,qo,P9]
 cases qg e x with
 |none=>rfl
 |some v=>cases v<;>cases qg e y<;>rfl
def Qa (f:Fn)(h:ql)(a b:Option (List AVal)):Option aK:=match a,b with
 |some a,I b=>val h (.fn f a b)
 |_,_=>Ea
@[go_sem] theorem jiz {f a b}:Qa f h (I a) (I b)=I ⟨.fn f a b,Eb,Ea,h⟩:=rfl
@[go_sem] theorem jzi {f a b}:qb p xc h0 al e h (.fL f a b)=Qa f h (yg e a) (yg e b):=by
 simp only[qb,qo,Qa]
 cases yg e a<;>cases yg e b<;>rfl
def Eu (f:AVal→AVal→Option AVal)(h:ql)(l:Option (List AVal)):Option aK:=match l with
 |some (v::vs)=>kl h (lZ f v vs)
 |_=>Ea
@[go_sem] theorem j1q {f v vs}:Eu f h (I (v::vs))=kl h (lZ f v vs):=rfl
@[go_sem] theorem j5o {l}:qb p xc h0 al e h (.mx l)=Eu max2 h (yg e l):=by
 simp only[qb,qo,Eu]
 cases yg e l with
 |none=>rfl
 |some vs=>cases vs<;>rfl
@[go_sem] theorem j5p {l}:qb p xc h0 al e h (.mn l)=Eu min2 h (yg e l):=by
 simp only[qb,qo,Eu]
 cases yg e l with
 |none=>rfl
 |some vs=>cases vs<;>rfl
def Qb (f:AVal→AVal→Option AVal)(x:Option AVal)(l:List AVal):Option AVal:=match x with
 |some z=>lZ f z l
 |none=>Ea
@[go_sem] theorem jnd {f x l}:Qb f (I x) l=lZ f x l:=rfl
@[go_sem] theorem jvr {f x}:lZ f x []=I x:=rfl
@[go_sem] theorem jnz {f x y l}:lZ f x (y::l)=Qb f (f x y) l:=by
 simp only[lZ,Qb];rfl
@[go_sem] theorem j17 {k x y}:max2 (.int k x) (.int k y)=I (.int k (max x y)):=by
 simp only[max2,decide_true,cond_true]
 congr 2
 by_cases h:y > x
 ·rw[if_pos h];omega
 ·rw[if_neg h];omega
@[go_sem] theorem jyc {k x y}:min2 (.int k x) (.int k y)=I (.int k (min x y)):=by
 simp only[min2,decide_true,cond_true]
 congr 2
 by_cases h:y<x
 ·rw[if_pos h];omega
 ·rw[if_neg h];omega
def Qc (k:Nat)(neq:Bool)(h:ql)(x:Option AVal):Option aK:=match k,x with
  |0,I (.list n _ _)=>val h (.bool (bif neq then !n else n))
  |0,I (.ms ..)=>val h (.bool neq)
  |1,I .bC=>val h (.bool (!neq))
  |1,I (.ptr ..)=>val h (.bool neq)
  |1,I (.ax ..)=>val h (.bool neq)
  |2,I .bB=>val h (.bool (!neq))
  |2,I (.map ..)=>val h (.bool neq)
  |3,I .bN=>val h (.bool (!neq))
  |3,I (.fn ..)=>val h (.bool neq)
  |_,_=>Ea
@[go_sem] theorem j32 {k neq x}:qb p xc h0 al e h (.eJ k neq x)=Qc k neq h (qg e x):=rfl
@[go_sem] theorem jtt {neq n z xs}:Qc 0 neq h (I (.list n z xs))=I ⟨.bool (bif neq then !n else n),Eb,Ea,h⟩:=rfl
@[go_sem] theorem jv0 {n k i}:below n (.int k i)=Ek:=rfl
@[go_sem] theorem jp8 {n b}:below n (.bool b)=Ek:=rfl
@[go_sem] theorem jwb {n s}:below n (.str s)=Ek:=rfl
@[go_sem] theorem jtp {n b z xs}:below n (.list b z xs)=qr n xs:=by simp only[below]
@[go_sem] theorem jv2 {n xs}:below n (.agg xs)=qr n xs:=by simp only[below]
@[go_sem] theorem jvg {n xs}:below n (.av xs)=qr n xs:=by simp only[below]
@[go_sem] theorem jt5 {n b o}:below n (.ptr b o)=decide (b<n):=by simp only[below,qX]
@[go_sem] theorem juq {n b}:below n (.map b)=decide (b<n):=by simp only[below,qX]
@[go_sem] theorem jxs {n k a b}:below n (.fn (.func k) a b)=(qr n a&&qr n b):=by simp only[below]
@[go_sem] theorem jpc {n}:qr n []=Ek:=by simp only[qr]
@[go_sem] theorem qz4 {n x xs}:qr n (x::xs)=(below n x&&qr n xs):=by simp only[qr]
@[go_sem] theorem jsu {n i}:below n (qx i)=Ek:=rfl
@[go_sem] theorem jpn {n z l}:below n (sl z qx l)=Ek:=PR fun _=>rfl
theorem ZJ {n f}(hf:∀x,below n (f x)=Ek):∀l:List α,qr n (l.map f)=Ek
 | []=>rfl
 |x::l=>by rw[List.map_cons,qz4,hf,ZJ hf l];rfl
@[go_sem] theorem jlx {n:Nat}{l:List Int}:qr n (l.map qx)=Ek:=ZJ (fun _=>rfl) l
@[go_sem] theorem j38 {k i}:y6 h (.int k i)=I (.int k i):=rfl
@[go_sem] theorem j23 {b}:y6 h (.bool b)=I (.bool b):=rfl
@[go_sem] theorem j3v {s}:y6 h (.str s)=I (.str s):=rfl
@[go_sem] theorem j2k {b z xs}:y6 h (.list b z xs)=I (.list b z xs):=rfl
@[go_sem] theorem jld {z:Nat}{f:α→AVal}{l}:y6 h (sl z f l)=I (sl z f l):=by cases l<;>rfl
@[go_sem] theorem jyh:y5 h []=I []:=rfl
@[go_sem] theorem juj {v vs}:y5 h (v::vs)=nP (y6 h v) (y5 h vs):=by
 simp only[y5,nP]
 cases y6 h v with
 |none=>rfl
 |some x=>cases y5 h vs<;>rfl
def IA (l:Option (List AVal)):Option AVal:=match l with
 |some xs=>I (.agg xs)
 |none=>Ea
@[go_sem] theorem jv6 {xs}:IA (I xs)=I (.agg xs):=rfl
@[go_sem] theorem j3c {cs}:aH h (.agg cs)=IA (y5 h cs):=by
 simp only[aH,IA]
 cases y5 h cs<;>rfl
@[go_sem] theorem j0q {k i}:aH h (.int k i)=I (.int k i):=rfl
@[go_sem] theorem jum {b}:aH h (.bool b)=I (.bool b):=rfl
@[go_sem] theorem j0d {s}:aH h (.str s)=I (.str s):=rfl
@[go_sem] theorem jvb {b z xs}:aH h (.list b z xs)=I (.list b z xs):=rfl
@[go_sem] theorem j36 {z:Nat}{f:α→AVal}{l}:aH h (sl z f l)=I (sl z f l):=by cases l<;>rfl
def Qd (l:Option (List AVal)):Option AVal:=match l with
 |some xs=>I (.av xs)
 |none=>Ea
@[go_sem] theorem jvn {xs}:Qd (I xs)=I (.av xs):=rfl
@[go_sem] theorem j0u {cs}:aH h (.av cs)=Qd (aH.aW h cs):=by
 simp only[aH,Qd]
 cases aH.aW h cs<;>rfl
@[go_sem] theorem j0i:aH.aW h []=I []:=rfl
@[go_sem] theorem jwx {cs vs}:aH.aW h (.agg cs::vs)=nP (IA (y5 h cs)) (aH.aW h vs):=by
 rw[aH.aW]
 cases y5 h cs with
 |none=>rfl
 |some x=>cases aH.aW h vs<;>rfl
theorem Ev {v vs}(hv:v.isAgg=Eb):aH.aW h (v::vs)=nP (y6 h v) (aH.aW h vs):=by
 have:∀cs,v≠.agg cs:=fun cs hc=>by rw[hc]at hv;cases hv
 rw[aH.aW]
 ·cases y6 h v with
  |none=>rfl
  |some x=>cases aH.aW h vs<;>rfl
 ·exact this
@[go_sem] theorem jxn {k i vs}:aH.aW h (.int k i::vs)=nP (I (.int k i)) (aH.aW h vs):=Ev rfl
@[go_sem] theorem jul {b vs}:aH.aW h (.bool b::vs)=nP (I (.bool b)) (aH.aW h vs):=Ev rfl
@[go_sem] theorem jxq {s vs}:aH.aW h (.str s::vs)=nP (I (.str s)) (aH.aW h vs):=Ev rfl
@[go_sem] theorem jwp {b z xs vs}:aH.aW h (.list b z xs::vs)=nP (I (.list b z xs)) (aH.aW h vs):=Ev rfl
@[go_sem] theorem j3m {z:Nat}{f:α→AVal}{l vs}:aH.aW h (sl z f l::vs)=nP (I (sl z f l)) (aH.aW h vs):=by
 rw[Ev (by cases l<;>rfl),jld]
attribute [go_sem] List.contains_cons List.contains_nil
@[go_sem] theorem j3l {a b:Nat}:(a == b)=decide (a=b):=by
 by_cases oq:a=b<;>simp[oq]
def Ew (agg:Bool)(c:Option (AVal×Bool))(vs:Option (List AVal)):Option (AVal×Bool):=match vs,agg with
 |some vs,Ek=>I (.agg vs,Eb)
 |some _,Eb=>c
 |none,_=>Ea
@[go_sem] theorem juh {c vs}:Ew Ek c (I vs)=I (.agg vs,Eb):=rfl
@[go_sem] theorem jwm {c vs}:Ew Eb c (I vs)=c:=rfl
def IB (agg:Bool)(o n:Nat)(cs:Option (List (AVal×Bool))):Option (AVal×Bool):=match cs with
 |some cs=>Ew agg cs[o]? (zp cs o n)
 |none=>Ea
@[go_sem] theorem jp1 {agg o n cs}:IB agg o n (I cs)=Ew agg cs[o]? (zp cs o n):=rfl
def Qe (agg:Bool)(n:Nat)(h:ql)(x:Option (AVal×Bool)):Option (AVal×Bool):=match x with
 |some (.ptr b o,_)=>IB agg o n (ji h b)
 |_=>Ea
@[go_sem] theorem juz {agg n b o w}:Qe agg n h (I (.ptr b o,w))=IB agg o n (ji h b):=rfl
@[go_sem] theorem jfg {t n agg}:qE ⟨e,h⟩ (.cell t agg n)=Qe agg n h (ja t e):=by
 simp only[qE,Qe]
 cases ja t e with
 |none=>rfl
 |some x=>
  obtain⟨v,w⟩:=x
  cases v with
  |ptr b o=>
   simp only[IB]
   cases ji h b with
   |none=>rfl
   |some cs=>
    simp only[Ew]
    cases zp cs o n with
    |none=>rfl
    |some vs=>cases agg with
     |true=>rfl
     |false=>simp only[cond_false];cases cs[o]?<;>rfl
  |_=>rfl
theorem qm {k args v v' o}(hp:p.bM k=Ea)(hc:ah p xc k args []=I (v,o,h))(hz:aH h v=I v')(hv:below 0 v'=Ek):ae p xc k args=I (v',o&&v.b6):=by
 unfold ae
 rw[hp]
 simp only[hc,hz,jQ,hv,cond_true]
end
end Go.Abs
