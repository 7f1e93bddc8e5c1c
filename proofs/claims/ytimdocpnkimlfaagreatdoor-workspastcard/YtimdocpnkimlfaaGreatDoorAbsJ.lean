/- Equations of the executor, second part. -/
import Derived.Test.YtimdocpnkimlfaaGreatDoorAbsI
set_option linter.unusedVariables false
set_option linter.unusedSimpArgs false
open Option renaming some→I,none→En
open Bool renaming false→Ga,true→Gd
open Nat renaming beq→Gb,ble→Ge,blt→Gh,eq_of_beq_eq_true→Gi
namespace Go.Abs
section
variable {p:jz}{xc:XC}{h0:Nat}{al:Option (List Nat)}{e:Env}{h:qi}{α:Type}
attribute [go_sem] List.getElem?_cons_zero List.getElem?_cons_succ List.getElem?_nil List.set_cons_zero List.set_cons_succ List.set_nil List.cons_append List.replicate_zero List.replicate_succ List.map_cons List.map_nil List.all_cons List.all_nil List.drop_zero List.drop_succ_cons List.take_zero List.take_succ_cons List.drop_nil List.take_nil Bool.and_true Bool.true_and Bool.or_false Bool.false_or Bool.and_self List.headD_cons List.foldl_cons List.foldl_nil List.flatMap_cons List.flatMap_nil
@[go_sem] theorem zmd {k n}:qk (.int k n)=Gd:=rfl
@[go_sem] theorem zk5 {b}:qk (.bool b)=Gd:=rfl
@[go_sem] theorem zl9 {s}:qk (.str s)=Gd:=rfl
@[go_sem] theorem zkz {b z xs}:qk (.list b z xs)=Gd:=rfl
@[go_sem] theorem zmn {b o n}:qk (.ms b o n)=Gd:=rfl
@[go_sem] theorem zlq {b o}:qk (.ptr b o)=Gd:=rfl
@[go_sem] theorem zl6 {b}:qk (.map b)=Gd:=rfl
@[go_sem] theorem j89:qk .b8=Gd:=rfl
@[go_sem] theorem j9t:qk .b4=Gd:=rfl
@[go_sem] theorem zkj:qk .cx=Gd:=rfl
@[go_sem] theorem zms {f a b}:qk (.fn f a b)=Gd:=rfl
@[go_sem] theorem zmk {z:Nat}{f:α→AVal}{l}:qk (sl z f l)=Gd:=by cases l<;>rfl
@[go_sem] theorem zg0 {cs}:AVal.flat (.agg cs)=cs:=rfl
@[go_sem] theorem zf2 {k n}:AVal.flat (.int k n)=[.int k n]:=rfl
@[go_sem] theorem j87 {b}:AVal.flat (.bool b)=[.bool b]:=rfl
@[go_sem] theorem zhx {s}:AVal.flat (.str s)=[.str s]:=rfl
@[go_sem] theorem j9k {b z xs}:AVal.flat (.list b z xs)=[.list b z xs]:=rfl
@[go_sem] theorem zlk {z:Nat}{f:α→AVal}{l}:AVal.flat (sl z f l)=[sl z f l]:=by cases l<;>rfl
@[go_sem] theorem zi7 {b o}:AVal.flat (.ptr b o)=[.ptr b o]:=rfl
@[go_sem] theorem zb2 {b}:AVal.flat (.map b)=[.map b]:=rfl
@[go_sem] theorem zk8 {f a b}:AVal.flat (.fn f a b)=[.fn f a b]:=rfl
@[go_sem] theorem zkt {b o n}:AVal.flat (.ms b o n)=[.ms b o n]:=rfl
@[go_sem] theorem Lr {a b}:Gb a b=decide (a=b):=by
 cases h:Gb a b with
 |true=>have:=Gi h;simp[this]
 |false=>
  have:a≠b:=fun hh=>by subst hh;simp at h
  simp[this]
@[go_sem] theorem nu {a b}:Ge a b=decide (a≤b):=by
 cases h:Ge a b with
 |true=>have:=Nat.le_of_ble_eq_true h;simp[this]
 |false=>
  have:¬a≤b:=fun hh=>by rw[Nat.ble_eq_true_of_le hh]at h;cases h
  simp[this]
@[go_sem] theorem vt {a b}:Gh a b=decide (a<b):=by
 show Ge (a+1) b=_
 rw[nu];rfl
@[go_sem] theorem j9n {b}:za h0 En b=Gd:=rfl
@[go_sem] theorem zk0:oE []=Ga:=rfl
@[go_sem] theorem zjr {k l}:oE (k::l)=decide (1000≤k):=by simp only[oE,nu]
@[go_sem] theorem zgm {k b l}:Ae h0 (k::l) b=cond (decide (k<2000)) (decide (b=k-1000)&&decide (b<h0)) (cond (decide (k<4000)) (decide (b=h0+(k-2000))) (decide (b<h0))):=by
 have e:∀x y:Nat,Gb x y=decide (x=y):=fun x y=>by
  cases h:Gb x y with
  |true=>rw[Gi h];simp
  |false=>
   have:x≠y:=fun e=>by rw[e,Nat.beq_refl]at h;cases h
   simp[this]
 simp only[Ae,vt,e]
@[go_sem] theorem j6r {b l}:za h0 (I l) b=cond (oE l) (Ae h0 l b) (decide (b<h0)||l.contains (b-h0)):=by simp only[za,vt]
def iA (r:Option qi)(v:AVal):Option bj:=match r with
 |some h'=>I ⟨v,Ga,En,h'⟩
 |none=>En
@[go_sem] theorem zbi {v}:iA (I h) v=I ⟨v,Ga,En,h⟩:=rfl
@[go_sem] theorem zbd {h0 r es}:Lq h0 r h Gd (I es)=iA (aS h0 h r (.map es)) (.map (h0+r)):=rfl
def SP (n:Nat)(h:qi)(b:Option bh)(x:bh):Option qi:=match b with
 |some .hole=>I (h.set n x)
 |_=>En
@[go_sem] theorem j9s {n x}:SP n h (I .hole) x=I (h.set n x):=rfl
@[go_sem] theorem j91 {r x}:aS h0 h r x=SP (h0+r) h h[h0+r]? x:=by
 unfold aS SP;rfl
def cn (b:Bool)(r:Option bj):Option bj:=match b with
 |true=>r
 |false=>En
@[go_sem] theorem zcc {r}:cn Gd r=r:=rfl
@[go_sem] theorem zlh {r z}:qf p xc h0 al e h (.alloc r z)=cn (z.all qk) (iA (aS h0 h r (.cells (cellsOf z))) (.ptr (h0+r) 0)):=by
 simp only[qf,qq,cn]
 cases z.all qk with
 |false=>rfl
 |true=>simp only[cond_true,iA];cases aS h0 h r (.cells (cellsOf z))<;>rfl
def SQ (n:Nat)(h:qi)(x:Option AVal):Option bj:=match x with
 |some v=>cn (Gb v.flat.length n&&v.flat.all qk) (I ⟨.ai v,Ga,En,h⟩)
 |none=>En
@[go_sem] theorem j5h {n v}:SQ n h (I v)=cn (Gb v.flat.length n&&v.flat.all qk) (I ⟨.ai v,Ga,En,h⟩):=rfl
@[go_sem] theorem zlv {n x}:qf p xc h0 al e h (.oC n x)=SQ n h (qh e x):=by
 simp only[qf,qp,SQ]
 cases qh e x with
 |none=>rfl
 |some v=>
  simp only[cn]
  cases (Gb v.flat.length n&&v.flat.all qk)<;>rfl
def SR (h0 r n:Nat)(h:qi)(x:Option AVal):Option bj:=match x with
 |some v=>cn (Gb v.flat.length n&&v.flat.all qk) (iA (aS h0 h r (.cells (cellsOf v.flat))) (.ptr (h0+r) 0))
 |none=>En
@[go_sem] theorem zam {r n v}:SR h0 r n h (I v)=cn (Gb v.flat.length n&&v.flat.all qk) (iA (aS h0 h r (.cells (cellsOf v.flat))) (.ptr (h0+r) 0)):=rfl
@[go_sem] theorem zmr {r n x}:qf p xc h0 al e h (.box r n x)=SR h0 r n h (qh e x):=by
 simp only[qf,qq,SR]
 cases qh e x with
 |none=>rfl
 |some v=>
  simp only[cn,iA]
  cases (Gb v.flat.length n&&v.flat.all qk)with
  |false=>rfl
  |true=>simp only[cond_true];cases aS h0 h r (.cells (cellsOf v.flat))<;>rfl
@[go_sem] theorem zlf {r}:qf p xc h0 al e h (.eG r)=iA (aS h0 h r (.map [])) (.map (h0+r)):=by
 simp only[qf,qq,iA]
 cases aS h0 h r (.map [])<;>rfl
@[go_sem] theorem jym:cellsOf []=[]:=rfl
@[go_sem] theorem jxh {v vs}:cellsOf (v::vs)=(v,Ga)::cellsOf vs:=rfl
def vu (agg:Bool)(h:qi)(r:Option AVal):Option bj:=match r with
 |some v=>bif Bool.xor agg v.isAgg then En else val h (.ai v)
 |none=>En
def D1 (agg:Bool)(off n:Nat)(h:qi)(x:Option AVal):Option bj:=match x with
 |some (.ptr b o)=>val h (.ptr b (o+off))
 |some (.ai (.agg cs))=>vu agg h (part agg cs off n)
 |some (.dE b bL o)=>val h (.dE b bL (o+off))
 |_=>En
@[go_sem] theorem jqq {agg off n b v o}:D1 agg off n h (I (.dE b v o))=I ⟨.dE b v (o+off),Ga,En,h⟩:=rfl
@[go_sem] theorem jqz {agg off n b o}:D1 agg off n h (I (.ptr b o))=I ⟨.ptr b (o+off),Ga,En,h⟩:=rfl
@[go_sem] theorem jpf {agg off n cs}:D1 agg off n h (I (.ai (.agg cs)))=vu agg h (part agg cs off n):=rfl
@[go_sem] theorem jyz {agg off n x}:qf p xc h0 al e h (.fieldAddr agg off n x)=D1 agg off n h (qh e x):=by
 simp only[qf,qp,D1]
 cases qh e x with
 |none=>rfl
 |some v=>cases v with
  |ai v=>cases v<;>rfl
  |_=>rfl
def zmc (v:AVal):Prop:=v.isAgg=Ga
theorem zbk {v}(hv:v.isAgg=Ga):vu Ga h (I v)=I ⟨.ai v,Ga,En,h⟩:=by simp[vu,hv,val]
@[go_sem] theorem za6 {k n}:vu Ga h (I (.int k n))=I ⟨.ai (.int k n),Ga,En,h⟩:=rfl
@[go_sem] theorem zaq {s}:vu Ga h (I (.str s))=I ⟨.ai (.str s),Ga,En,h⟩:=rfl
@[go_sem] theorem j7j {b}:vu Ga h (I (.bool b))=I ⟨.ai (.bool b),Ga,En,h⟩:=rfl
@[go_sem] theorem zjq {z:Nat}{f:α→AVal}{l}:vu Ga h (I (sl z f l))=I ⟨.ai (sl z f l),Ga,En,h⟩:=by cases l<;>rfl
@[go_sem] theorem zag {cs}:vu Gd h (I (.agg cs))=I ⟨.ai (.agg cs),Ga,En,h⟩:=rfl
@[go_sem] theorem zdk {cs off n}:part Ga cs off n=cs[off]?:=rfl
def SS (b:Bool)(cs:List AVal)(off n:Nat):Option AVal:=match b with
 |true=>I (.agg ((cs.drop off).take n))
 |false=>En
@[go_sem] theorem j0u {cs off n}:SS Gd cs off n=I (.agg ((cs.drop off).take n)):=rfl
@[go_sem] theorem zen {cs off n}:part Gd cs off n=SS (decide (off+n≤cs.length)) cs off n:=by
 simp only[part,SS,cond_true,nu]
 cases decide (off+n≤cs.length)<;>rfl
@[go_sem] theorem zhq {z:Nat}{f:α→AVal}{l}:ki h0 al Ga 1 h (I (.ai (sl z f l)))=I ⟨sl z f l,Ga,En,h⟩:=by cases l<;>rfl
def SU (h:qi)(cs:List AVal)(b:Bool):Option bj:=match b with
 |true=>I ⟨.agg cs,Ga,En,h⟩
 |false=>En
@[go_sem] theorem zan {cs}:SU h cs Gd=I ⟨.agg cs,Ga,En,h⟩:=rfl
@[go_sem] theorem j0b {n cs}:ki h0 al Gd n h (I (.ai (.agg cs)))=SU h cs (decide (cs.length=n)):=by
 unfold SU
 by_cases hn:cs.length=n
 ·rw[je1 hn];simp[hn]
 ·simp[ki,AVal.isAgg,AVal.flat,hn,Lr]
def G1 (agg:Bool)(h:qi)(vs:Option (List AVal)):Option bj:=match vs with
 |some vs=>bif agg then val h (.agg vs)else(match vs with
  | [v]=>val h v
  |_=>En)
 |none=>En
@[go_sem] theorem zcq {vs}:G1 Gd h (I vs)=I ⟨.agg vs,Ga,En,h⟩:=rfl
@[go_sem] theorem zcn {v}:G1 Ga h (I [v])=I ⟨v,Ga,En,h⟩:=rfl
def SV (b:Option bh):Option (List (AVal×Bool)):=match b with
 |some (.cells cs)=>I cs
 |_=>En
@[go_sem] theorem jy4 {cs}:SV (I (.cells cs))=I cs:=rfl
@[go_sem] theorem q7g {b}:ju h b=SV h[b]?:=by unfold ju SV;rfl
def SW (b:Bool)(cs:List (AVal×Bool))(off n:Nat):Option (List AVal):=match b with
 |true=>I (((cs.drop off).take n).map (·.1))
 |false=>En
@[go_sem] theorem zg3 {cs off n}:SW Gd cs off n=I (((cs.drop off).take n).map (·.1)):=rfl
@[go_sem] theorem jx5 {cs off n}:zi cs off n=SW (decide (off+n≤cs.length)) cs off n:=by
 simp only[zi,SW,nu]
 cases decide (off+n≤cs.length)<;>rfl
def SX (agg:Bool)(o n:Nat)(h:qi)(cs:Option (List (AVal×Bool))):Option bj:=match cs with
 |some cs=>G1 agg h (zi cs o n)
 |none=>En
@[go_sem] theorem j9w {agg o n cs}:SX agg o n h (I cs)=G1 agg h (zi cs o n):=rfl
@[go_sem] theorem zas {agg n b o}:ki h0 al agg n h (I (.ptr b o))=cn (za h0 al b) (SX agg o n h (ju h b)):=by
 simp only[ki,cn,SX,G1]
 cases za h0 al b with
 |false=>rfl
 |true=>
  simp only[cond_true]
  cases ju h b with
  |none=>rfl
  |some cs=>simp only[];cases zi cs o n<;>rfl
def Ls (r:Option qi)(v:AVal)(w:Bool):Option bj:=match r with
 |some h'=>I ⟨v,w,En,h'⟩
 |none=>En
@[go_sem] theorem j10 {v w}:Ls (I h) v w=I ⟨v,w,En,h⟩:=rfl
def Lt (h:qi)(b o:Nat)(cs:List (AVal×Bool))(x:Option (AVal×Bool)):Option bj:=match x with
 |some (v,w)=>Ls (jt h b (.cells (cs.set o (v,Ga)))) v w
 |none=>En
@[go_sem] theorem j4n {b o cs v w}:Lt h b o cs (I (v,w))=Ls (jt h b (.cells (cs.set o (v,Ga)))) v w:=rfl
def Lu (h:qi)(b o:Nat)(cs:Option (List (AVal×Bool))):Option bj:=match cs with
 |some cs=>Lt h b o cs cs[o]?
 |none=>En
@[go_sem] theorem j59 {b o cs}:Lu h b o (I cs)=Lt h b o cs cs[o]?:=rfl
def SY (h0:Nat)(al:Option (List Nat))(off:Option Nat)(h:qi)(x:Option AVal):Option bj:=match x with
 |some (.ptr b o)=>cn (za h0 al b&&uR off o) (Lu h b o (ju h b))
 |_=>En
@[go_sem] theorem jqu {off b o}:SY h0 al off h (I (.ptr b o))=cn (za h0 al b&&uR off o) (Lu h b o (ju h b)):=rfl
@[go_sem] theorem j4z {o}:uR En o=Gd:=rfl
@[go_sem] theorem j6e {a o}:uR (I a) o=decide (a=o):=by simp only[uR,Lr]
@[go_sem] theorem j29 {off x}:qf p xc h0 al e h (.cB off x)=SY h0 al off h (qh e x):=by
 simp only[qf,qq,SY]
 cases qh e x with
 |none=>rfl
 |some v=>cases v with
  |ptr b o=>
   simp only[cn,Lu,Lt,Ls]
   cases (za h0 al b&&uR off o)with
   |false=>rfl
   |true=>
    simp only[cond_true]
    cases ju h b with
    |none=>rfl
    |some cs=>
     simp only[]
     cases cs[o]? with
     |none=>rfl
     |some c=>
      obtain⟨v,w⟩:=c
      simp only[]
      cases jt h b (.cells (cs.set o (v,Ga)))<;>rfl
  |_=>rfl
def SZ (b:Bool)(n:Nat)(x:bh)(h:qi):Option qi:=match b with
 |true=>I (h.set n x)
 |false=>En
@[go_sem] theorem j9r {n x}:SZ Gd n x h=I (h.set n x):=rfl
@[go_sem] theorem j96 {b x}:jt h b x=SZ (decide (b<h.length)) b x h:=by
 simp only[jt,SZ,vt]
 cases decide (b<h.length)<;>rfl
def S0 (b:Bool)(cs:List (AVal×Bool))(off:Nat)(vs:List AVal):Option (List (AVal×Bool)):=match b with
 |true=>I (cs.take off++vs.map (·,Ga)++cs.drop (off+vs.length))
 |false=>En
@[go_sem] theorem zd8 {cs off vs}:S0 Gd cs off vs=I (cs.take off++vs.map (·,Ga)++cs.drop (off+vs.length)):=rfl
@[go_sem] theorem jqr {cs off vs}:jr cs off vs=S0 (decide (off+vs.length≤cs.length)&&vs.all qk) cs off vs:=by
 simp only[jr,S0,nu]
 cases (decide (off+vs.length≤cs.length)&&vs.all qk)<;>rfl
def zm1 (e:Env)(x:js):Option Nat:=zm e x
def Lw (t:Nat)(x:Option (AVal×Bool)):Option Nat:=match x with
 |some (_,Gd)=>I t
 |_=>En
@[go_sem] theorem zbj {t v}:Lw t (I (v,Gd))=I t:=rfl
@[go_sem] theorem j6h {t v}:Lw t (I (v,Ga))=En:=rfl
@[go_sem] theorem j9u {t}:zm e (.tmp t)=Lw t (ji t e):=by
 simp only[zm,Lw];rfl
@[go_sem] theorem jyq {v}:zm e (.const v)=En:=rfl
def Lx (h:qi)(b:Nat)(cs:Option (List (AVal×Bool))):Option bj:=match cs with
 |some eN=>iA (jt h b (.cells eN)) .undef
 |none=>En
@[go_sem] theorem jtx {b cs}:Lx h b (I cs)=iA (jt h b (.cells cs)) .undef:=rfl
def Ly (t:Nat)(r:Option qi):Option bj:=match r with
 |some h'=>I ⟨.undef,Ga,I t,h'⟩
 |none=>En
@[go_sem] theorem j0l {t}:Ly t (I h)=I ⟨.undef,Ga,I t,h⟩:=rfl
def G2 (n:Nat)(h:qi)(b o:Nat)(v:AVal)(own:Option Nat)(cs:Option (List (AVal×Bool))):Option bj:=match cs,own with
 |some cs,I t=>cn (Gb n 1&&v.cR&&Gh o cs.length) (Ly t (jt h b (.cells (cs.set o (v,Gd)))))
 |some cs,En=>cn (Gb v.flat.length n) (Lx h b (jr cs o v.flat))
 |none,_=>En
@[go_sem] theorem j42 {n b o t v cs}:G2 n h b o v (I t) (I cs)=cn (Gb n 1&&v.cR&&Gh o cs.length) (Ly t (jt h b (.cells (cs.set o (v,Gd))))):=rfl
@[go_sem] theorem jv5 {n b o v cs}:G2 n h b o v En (I cs)=cn (Gb v.flat.length n) (Lx h b (jr cs o v.flat)):=rfl
def S1 (h0:Nat)(al:Option (List Nat))(n:Nat)(h:qi)(own:Option Nat)(a x:Option AVal):Option bj:=match a,x with
 |some (.ptr b o),I v=>cn (za h0 al b) (G2 n h b o v own (ju h b))
 |_,_=>En
@[go_sem] theorem j1u {n b o own v}:S1 h0 al n h own (I (.ptr b o)) (I v)=cn (za h0 al b) (G2 n h b o v own (ju h b)):=rfl
@[go_sem] theorem zlb {n a x}:qf p xc h0 al e h (.store n a x)=S1 h0 al n h (zm e x) (qh e a) (qh e x):=by
 simp only[qf,qq,S1]
 cases qh e a with
 |none=>rfl
 |some va=>
  cases va with
  |ptr b o=>
   cases qh e x with
   |none=>rfl
   |some v=>
    simp only[cn]
    cases za h0 al b with
    |false=>rfl
    |true=>
     simp only[cond_true]
     cases ju h b with
     |none=>rfl
     |some cs=>
      simp only[G2]
      cases zm e x with
      |none=>
       simp only[cn,Lx,iA]
       cases Gb v.flat.length n with
       |false=>rfl
       |true=>
        simp only[cond_true]
        cases jr cs o v.flat with
        |none=>rfl
        |some eN=>simp only[];cases jt h b (.cells eN)<;>rfl
      |some t=>
       simp only[cn,Ly]
       cases (Gb n 1&&v.cR&&Gh o cs.length)with
       |false=>rfl
       |true=>simp only[cond_true];cases jt h b (.cells (cs.set o (v,Gd)))<;>rfl
  |_=>rfl
@[go_sem] theorem jys {b z xs}:AVal.cR (.list b z xs)=Gd:=rfl
@[go_sem] theorem j9a {z:Nat}{f:α→AVal}{l}:AVal.cR (sl z f l)=Gd:=by cases l<;>rfl
def Lz (b:Bool)(off:Nat)(vs:List AVal)(l:Option (List (Nat×List AVal))):Option (List (Nat×List AVal)):=match b,l with
 |true,I r=>I ((off,vs)::r)
 |_,_=>En
@[go_sem] theorem jy0 {off vs r}:Lz Gd off vs (I r)=I ((off,vs)::r):=rfl
def S2 (x:Option AVal)(off n:Nat)(l:Option (List (Nat×List AVal))):Option (List (Nat×List AVal)):=match x with
 |some v=>Lz (Gb v.flat.length n&&v.flat.all qk) off v.flat l
 |none=>En
@[go_sem] theorem jyy {v off n l}:S2 (I v) off n l=Lz (Gb v.flat.length n&&v.flat.all qk) off v.flat l:=rfl
@[go_sem] theorem jqy:kj e []=I []:=rfl
@[go_sem] theorem jpj {off n x l}:kj e ((off,n,x)::l)=S2 (qh e x) off n (kj e l):=by
 simp only[kj,S2,Lz]
 cases qh e x with
 |none=>rfl
 |some v=>simp only[];cases (Gb v.flat.length n&&v.flat.all qk)<;>cases kj e l<;>rfl
def kA (h:qi)(zero:List AVal)(ps:Option (List (Nat×List AVal))):Option bj:=match ps with
 |some ps=>og h (jT zero ps)
 |none=>En
where og (h:qi) (r:Option (List AVal)):Option bj:=match r with
 |some cs=>I ⟨.agg cs,Ga,En,h⟩
 |none=>En
@[go_sem] theorem j2w {zero ps}:kA h zero (I ps)=kA.og h (jT zero ps):=rfl
@[go_sem] theorem j27 {cs}:kA.og h (I cs)=I ⟨.agg cs,Ga,En,h⟩:=rfl
@[go_sem] theorem zky {zero ps}:qf p xc h0 al e h (.build zero ps)=kA h zero (kj e ps):=by
 simp only[qf,qp,kA,kA.og]
 cases kj e ps with
 |none=>rfl
 |some ps=>simp only[];cases jT zero ps<;>rfl
@[go_sem] theorem zbm {cs}:jT cs []=I cs:=rfl
def S3 (b:Bool)(cs:List AVal)(off:Nat)(vs:List AVal)(l:List (Nat×List AVal)):Option (List AVal):=match b with
 |true=>jT (cs.take off++vs++cs.drop (off+vs.length)) l
 |false=>En
@[go_sem] theorem j1g {cs off vs l}:S3 Gd cs off vs l=jT (cs.take off++vs++cs.drop (off+vs.length)) l:=rfl
@[go_sem] theorem j64 {cs off vs l}:jT cs ((off,vs)::l)=S3 (decide (off+vs.length≤cs.length)) cs off vs l:=by
 simp only[jT,S3,nu]
 cases decide (off+vs.length≤cs.length)<;>rfl
def gO (x:Option AVal)(i sz:Nat)(l:Option (List (Nat×AVal))):Option (List (Nat×AVal)):=match x with
 |some v=>kU (Gb v.flat.length sz&&v.flat.all qk) i v l
 |none=>En
where kU (b:Bool) (i:Nat) (v:AVal) (l:Option (List (Nat×AVal))):Option (List (Nat×AVal)):=match b,l with
 |true,I r=>I ((i,v)::r)
 |_,_=>En
@[go_sem] theorem jyr {v i sz l}:gO (I v) i sz l=gO.kU (Gb v.flat.length sz&&v.flat.all qk) i v l:=rfl
@[go_sem] theorem jzb {v i r}:gO.kU Gd i v (I r)=I ((i,v)::r):=rfl
@[go_sem] theorem jqt {sz}:yg e sz []=I []:=rfl
@[go_sem] theorem jp5 {sz i x l}:yg e sz ((i,x)::l)=gO (qh e x) i sz (yg e sz l):=by
 simp only[yg,gO,gO.kU]
 cases qh e x with
 |none=>rfl
 |some v=>simp only[];cases (Gb v.flat.length sz&&v.flat.all qk)<;>cases yg e sz l<;>rfl
@[go_sem] theorem za9 {xs}:lx xs []=I xs:=rfl
def S4 (b:Bool)(xs:List AVal)(i:Nat)(v:AVal)(l:List (Nat×AVal)):Option (List AVal):=match b with
 |true=>lx (xs.set i v) l
 |false=>En
@[go_sem] theorem jyf {xs i v l}:S4 Gd xs i v l=lx (xs.set i v) l:=rfl
@[go_sem] theorem j5w {xs i v l}:lx xs ((i,v)::l)=S4 (decide (i<xs.length)) xs i v l:=by
 simp only[lx,S4,vt]
 cases decide (i<xs.length)<;>rfl
def gP (sz:Nat)(h:qi)(xs:List AVal)(ps:Option (List (Nat×AVal))):Option bj:=match ps with
 |some ps=>kW sz h (lx xs ps)
 |none=>En
where kW (sz:Nat) (h:qi) (r:Option (List AVal)):Option bj:=match r with
 |some xs=>I ⟨.list Ga sz xs,Gd,En,h⟩
 |none=>En
@[go_sem] theorem jy8 {sz xs ps}:gP sz h xs (I ps)=gP.kW sz h (lx xs ps):=rfl
@[go_sem] theorem jzh {sz xs}:gP.kW sz h (I xs)=I ⟨.list Ga sz xs,Gd,En,h⟩:=rfl
@[go_sem] theorem js9 {sz len zero ps}:qf p xc h0 al e h (.buildSlice sz len zero ps)=gP sz h (List.replicate len (bif Gb sz 1 then zero.headD .undef else .agg zero)) (yg e sz ps):=by
 simp only[qf,qp,gP,gP.kW]
 cases yg e sz ps with
 |none=>rfl
 |some ps=>simp only[];cases lx (List.replicate len (bif Gb sz 1 then zero.headD .undef else .agg zero)) ps<;>rfl
def bQ (sz bytes:Nat)(h:qi)(own:Option Nat)(x y:Option AVal):Option bj:=match x,y with
 |some (.list n dl xs),I vy=>cn (n||own.isSome) (iB sz bytes h own n dl xs (zw sz vy))
 |_,_=>En
where iB (sz bytes:Nat) (h:qi) (own:Option Nat) (n:Bool) (dl:Nat) (xs:List AVal) (ys:Option (List AVal)):Option bj:=match ys with
 |some ys=>cn ((Gb sz dl||(xs.isEmpty&&n))&&Ge (xs.length+ys.length) 1073741824&&Ge bytes 4096&&Gh 0 sz) (I ⟨qF n sz xs ys,Gd,own,h⟩)
 |none=>En
@[go_sem] theorem j97 {sz bytes own n dl xs vy}:bQ sz bytes h own (I (.list n dl xs)) (I vy)=cn (n||own.isSome) (bQ.iB sz bytes h own n dl xs (zw sz vy)):=rfl
@[go_sem] theorem j99 {sz bytes own n dl xs ys}:bQ.iB sz bytes h own n dl xs (I ys)=cn ((Gb sz dl||(xs.isEmpty&&n))&&Ge (xs.length+ys.length) 1073741824&&Ge bytes 4096&&Gh 0 sz) (I ⟨qF n sz xs ys,Gd,own,h⟩):=rfl
@[go_sem] theorem zh0 {sz bytes x y}:qf p xc h0 al e h (.append En sz bytes x y)=bQ sz bytes h (zm e x) (qh e x) (qh e y):=by
 simp only[qf,qp,bQ,bQ.iB]
 cases qh e x with
 |none=>rfl
 |some vx=>
  cases vx with
  |list n dl xs=>
   cases qh e y with
   |none=>rfl
   |some vy=>
    simp only[cn]
    cases (n||(zm e x).isSome)with
    |false=>rfl
    |true=>
     simp only[cond_true]
     cases zw sz vy with
     |none=>rfl
     |some ys=>simp only[];cases ((Gb sz dl||(xs.isEmpty&&n))&&Ge (xs.length+ys.length) 1073741824&&Ge bytes 4096&&Gh 0 sz)<;>rfl
  |_=>cases qh e y<;>rfl
@[go_sem] theorem S5 {z:Nat}{f:α→AVal}{l}:zw z (sl z f l)=I ((l.getD []).map f):=by
 cases l<;>simp[zw,sl]
@[go_sem] theorem zd9 {z b xs}:zw z (.list b z xs)=I xs:=by simp[zw]
@[go_sem] theorem zlg {z z' b}:zw z (.list b z' [])=I []:=by simp[zw]
@[go_sem] theorem jy3 {z xs ys}:qF Ga z xs ys=.list Ga z (xs++ys):=rfl
@[go_sem] theorem jzw {z b xs y ys}:qF b z xs (y::ys)=.list Ga z (xs++y::ys):=by cases b<;>rfl
attribute [go_sem] Option.isSome_some Option.isSome_none Bool.or_true Bool.true_or List.isEmpty_nil List.isEmpty_cons Bool.and_false Bool.false_and
def S6 (h:qi)(i:Nat)(x:Option AVal):Option bj:=match x with
 |some (.aJ vs)=>gG h vs[i]?
 |_=>En
@[go_sem] theorem jsv {i vs}:S6 h i (I (.aJ vs))=gG h vs[i]?:=rfl
@[go_sem] theorem zaw {i x}:qf p xc h0 al e h (.extract x i)=S6 h i (qh e x):=by
 simp only[qf,qp,S6]
 cases qh e x with
 |none=>rfl
 |some v=>cases v<;>rfl
def S7 (op:UnOp)(h:qi)(x:Option AVal):Option bj:=match x with
 |some v=>gG h (xR op v)
 |none=>En
@[go_sem] theorem zg7 {op v}:S7 op h (I v)=gG h (xR op v):=rfl
@[go_sem] theorem zm4 {op x}:qf p xc h0 al e h (.un op x)=S7 op h (qh e x):=by
 simp only[qf,qp,S7]
 cases qh e x<;>rfl
@[go_sem] theorem zly {b}:xR .not (.bool b)=I (.bool (!b)):=rfl
@[go_sem] theorem zlp {k n}:xR .neg (.int k n)=I (.int k (qe k (0-n))):=rfl
def S8 (neq:Bool)(h:qi)(x y:Option AVal):Option bj:=match x,y with
 |some (.bool a),I (.bool b)=>val h (.bool (bif neq then !(a == b)else a == b))
 |_,_=>En
@[go_sem] theorem j9j {neq a b}:S8 neq h (I (.bool a)) (I (.bool b))=I ⟨.bool (bif neq then !(a == b)else a == b),Ga,En,h⟩:=rfl
@[go_sem] theorem zml {neq x y}:qf p xc h0 al e h (.beq neq x y)=S8 neq h (qh e x) (qh e y):=by
 simp only[qf,qp,S8]
 cases qh e x with
 |none=>rfl
 |some v=>cases v<;>cases qh e y<;>rfl
def S9 (f:Fn)(h:qi)(a b:Option (List AVal)):Option bj:=match a,b with
 |some a,I b=>val h (.fn f a b)
 |_,_=>En
@[go_sem] theorem jve {f a b}:S9 f h (I a) (I b)=I ⟨.fn f a b,Ga,En,h⟩:=rfl
@[go_sem] theorem zek {f a b}:qf p xc h0 al e h (.gF f a b)=S9 f h (ky e a) (ky e b):=by
 simp only[qf,qp,S9]
 cases ky e a<;>cases ky e b<;>rfl
def G3 (f:AVal→AVal→Option AVal)(h:qi)(l:Option (List AVal)):Option bj:=match l with
 |some (v::vs)=>gG h (nP f v vs)
 |_=>En
@[go_sem] theorem zgs {f v vs}:G3 f h (I (v::vs))=gG h (nP f v vs):=rfl
@[go_sem] theorem zm0 {l}:qf p xc h0 al e h (.mx l)=G3 max2 h (ky e l):=by
 simp only[qf,qp,G3]
 cases ky e l with
 |none=>rfl
 |some vs=>cases vs<;>rfl
@[go_sem] theorem zm3 {l}:qf p xc h0 al e h (.mn l)=G3 min2 h (ky e l):=by
 simp only[qf,qp,G3]
 cases ky e l with
 |none=>rfl
 |some vs=>cases vs<;>rfl
def Ta (f:AVal→AVal→Option AVal)(x:Option AVal)(l:List AVal):Option AVal:=match x with
 |some z=>nP f z l
 |none=>En
@[go_sem] theorem j34 {f x l}:Ta f (I x) l=nP f x l:=rfl
@[go_sem] theorem zak {f x}:nP f x []=I x:=rfl
@[go_sem] theorem j8q {f x y l}:nP f x (y::l)=Ta f (f x y) l:=by
 simp only[nP,Ta];rfl
@[go_sem] theorem zhn {k x y}:max2 (.int k x) (.int k y)=I (.int k (max x y)):=by
 simp only[max2,decide_true,cond_true]
 congr 2
 by_cases h:y > x
 ·rw[if_pos h];omega
 ·rw[if_neg h];omega
@[go_sem] theorem zh1 {k x y}:min2 (.int k x) (.int k y)=I (.int k (min x y)):=by
 simp only[min2,decide_true,cond_true]
 congr 2
 by_cases h:y<x
 ·rw[if_pos h];omega
 ·rw[if_neg h];omega
def Tb (k:Nat)(neq:Bool)(h:qi)(x:Option AVal):Option bj:=match k,x with
  |0,I (.list n _ _)=>val h (.bool (bif neq then !n else n))
  |0,I (.ms ..)=>val h (.bool neq)
  |1,I .b8=>val h (.bool (!neq))
  |1,I (.ptr ..)=>val h (.bool neq)
  |1,I (.ai ..)=>val h (.bool neq)
  |2,I .b4=>val h (.bool (!neq))
  |2,I (.map ..)=>val h (.bool neq)
  |3,I .cx=>val h (.bool (!neq))
  |3,I (.fn ..)=>val h (.bool neq)
  |_,_=>En
@[go_sem] theorem zll {k neq x}:qf p xc h0 al e h (.fC k neq x)=Tb k neq h (qh e x):=rfl
@[go_sem] theorem j61 {neq n z xs}:Tb 0 neq h (I (.list n z xs))=I ⟨.bool (bif neq then !n else n),Ga,En,h⟩:=rfl
@[go_sem] theorem zaz {n k i}:below n (.int k i)=Gd:=rfl
@[go_sem] theorem j0x {n b}:below n (.bool b)=Gd:=rfl
@[go_sem] theorem za3 {n s}:below n (.str s)=Gd:=rfl
@[go_sem] theorem j5p {n b z xs}:below n (.list b z xs)=qy n xs:=by simp only[below]
@[go_sem] theorem j9m {n xs}:below n (.agg xs)=qy n xs:=by simp only[below]
@[go_sem] theorem zbc {n xs}:below n (.aJ xs)=qy n xs:=by simp only[below]
@[go_sem] theorem za5 {n b o}:below n (.ptr b o)=decide (b<n):=by simp only[below,vt]
@[go_sem] theorem zac {n b}:below n (.map b)=decide (b<n):=by simp only[below,vt]
@[go_sem] theorem zis {n k a b}:below n (.fn (.func k) a b)=(qy n a&&qy n b):=by simp only[below]
@[go_sem] theorem j75 {n}:qy n []=Gd:=by simp only[qy]
@[go_sem] theorem q63 {n x xs}:qy n (x::xs)=(below n x&&qy n xs):=by simp only[qy]
@[go_sem] theorem j3o {n i}:below n (z7 i)=Gd:=rfl
@[go_sem] theorem j2i {n z l}:below n (sl z z7 l)=Gd:=vr fun _=>rfl
theorem qxb {n f}(hf:∀x,below n (f x)=Gd):∀l:List α,qy n (l.map f)=Gd
 | []=>rfl
 |x::l=>by rw[List.map_cons,q63,hf,qxb hf l];rfl
@[go_sem] theorem jy7 {n:Nat}{l:List Int}:qy n (l.map z7)=Gd:=qxb (fun _=>rfl) l
@[go_sem] theorem zku {k i}:yq h (.int k i)=I (.int k i):=rfl
@[go_sem] theorem zdr {b}:yq h (.bool b)=I (.bool b):=rfl
@[go_sem] theorem zkv {s}:yq h (.str s)=I (.str s):=rfl
@[go_sem] theorem zgq {b z xs}:yq h (.list b z xs)=I (.list b z xs):=rfl
@[go_sem] theorem jvr {z:Nat}{f:α→AVal}{l}:yq h (sl z f l)=I (sl z f l):=by cases l<;>rfl
@[go_sem] theorem zck:ly h []=I []:=rfl
@[go_sem] theorem j9l {v vs}:ly h (v::vs)=pM (yq h v) (ly h vs):=by
 simp only[ly,pM]
 cases yq h v with
 |none=>rfl
 |some x=>cases ly h vs<;>rfl
def LA (l:Option (List AVal)):Option AVal:=match l with
 |some xs=>I (.agg xs)
 |none=>En
@[go_sem] theorem j9g {xs}:LA (I xs)=I (.agg xs):=rfl
@[go_sem] theorem Tc {cs}:aK h (.agg cs)=LA (ly h cs):=by
 simp only[aK,LA]
 cases ly h cs<;>rfl
@[go_sem] theorem zdn {k i}:aK h (.int k i)=I (.int k i):=rfl
@[go_sem] theorem zba {b}:aK h (.bool b)=I (.bool b):=rfl
@[go_sem] theorem zg1 {s}:aK h (.str s)=I (.str s):=rfl
@[go_sem] theorem zbh {b z xs}:aK h (.list b z xs)=I (.list b z xs):=rfl
@[go_sem] theorem zln {z:Nat}{f:α→AVal}{l}:aK h (sl z f l)=I (sl z f l):=by cases l<;>rfl
def Td (l:Option (List AVal)):Option AVal:=match l with
 |some xs=>I (.aJ xs)
 |none=>En
@[go_sem] theorem zbl {xs}:Td (I xs)=I (.aJ xs):=rfl
@[go_sem] theorem zex {cs}:aK h (.aJ cs)=Td (aK.bE h cs):=by
 simp only[aK,Td]
 cases aK.bE h cs<;>rfl
@[go_sem] theorem zb1:aK.bE h []=I []:=rfl
@[go_sem] theorem zgh {cs vs}:aK.bE h (.agg cs::vs)=pM (LA (ly h cs)) (aK.bE h vs):=by
 rw[aK.bE]
 cases ly h cs with
 |none=>rfl
 |some x=>cases aK.bE h vs<;>rfl
theorem G4 {v vs}(hv:v.isAgg=Ga):aK.bE h (v::vs)=pM (yq h v) (aK.bE h vs):=by
 have:∀cs,v≠.agg cs:=fun cs hc=>by rw[hc]at hv;cases hv
 rw[aK.bE]
 ·cases yq h v with
  |none=>rfl
  |some x=>cases aK.bE h vs<;>rfl
 ·exact this
@[go_sem] theorem zkc {k i vs}:aK.bE h (.int k i::vs)=pM (I (.int k i)) (aK.bE h vs):=G4 rfl
@[go_sem] theorem za7 {b vs}:aK.bE h (.bool b::vs)=pM (I (.bool b)) (aK.bE h vs):=G4 rfl
@[go_sem] theorem zkm {s vs}:aK.bE h (.str s::vs)=pM (I (.str s)) (aK.bE h vs):=G4 rfl
@[go_sem] theorem zbb {b z xs vs}:aK.bE h (.list b z xs::vs)=pM (I (.list b z xs)) (aK.bE h vs):=G4 rfl
@[go_sem] theorem zle {z:Nat}{f:α→AVal}{l vs}:aK.bE h (sl z f l::vs)=pM (I (sl z f l)) (aK.bE h vs):=by
 rw[G4 (by cases l<;>rfl),jvr]
attribute [go_sem] List.contains_cons List.contains_nil
@[go_sem] theorem zk9 {a b:Nat}:(a == b)=decide (a=b):=by
 by_cases nW:a=b<;>simp[nW]
def G5 (agg:Bool)(c:Option (AVal×Bool))(vs:Option (List AVal)):Option (AVal×Bool):=match vs,agg with
 |some vs,Gd=>I (.agg vs,Ga)
 |some _,Ga=>c
 |none,_=>En
@[go_sem] theorem zav {c vs}:G5 Gd c (I vs)=I (.agg vs,Ga):=rfl
@[go_sem] theorem j9f {c vs}:G5 Ga c (I vs)=c:=rfl
def LB (agg:Bool)(o n:Nat)(cs:Option (List (AVal×Bool))):Option (AVal×Bool):=match cs with
 |some cs=>G5 agg cs[o]? (zi cs o n)
 |none=>En
@[go_sem] theorem jz8 {agg o n cs}:LB agg o n (I cs)=G5 agg cs[o]? (zi cs o n):=rfl
def Te (agg:Bool)(n:Nat)(h:qi)(x:Option (AVal×Bool)):Option (AVal×Bool):=match x with
 |some (.ptr b o,_)=>LB agg o n (ju h b)
 |_=>En
@[go_sem] theorem j9h {agg n b o w}:Te agg n h (I (.ptr b o,w))=LB agg o n (ju h b):=rfl
@[go_sem] theorem jqx {t n agg}:uS ⟨e,h⟩ (.cell t agg n)=Te agg n h (ji t e):=by
 simp only[uS,Te]
 cases ji t e with
 |none=>rfl
 |some x=>
  obtain⟨v,w⟩:=x
  cases v with
  |ptr b o=>
   simp only[LB]
   cases ju h b with
   |none=>rfl
   |some cs=>
    simp only[G5]
    cases zi cs o n with
    |none=>rfl
    |some vs=>cases agg with
     |true=>rfl
     |false=>simp only[cond_false];cases cs[o]?<;>rfl
  |_=>rfl
theorem zo {k args v v' o}(hp:p.cN k=En)(hc:qo p xc k args []=I (v,o,h))(hz:aK h v=I v')(hv:below 0 v'=Gd):qc p xc k args=I (v',o&&v.cR):=by
 unfold qc
 rw[hp]
 simp only[hc,hz,mc,hv,cond_true]
end
end Go.Abs
