/- Equations of the executor, second part. -/
import Derived.Test.YtimdocpnkimlfaaGreatDoorAbsI
set_option linter.unusedVariables false
set_option linter.unusedSimpArgs false
open Option renaming some→I,none→En
open Bool renaming false→Ey,true→Gp
open Nat renaming beq→Gn,ble→Gq,blt→Gs,eq_of_beq_eq_true→Gt
namespace Go.Abs
section
variable {p:zb}{xc:XC}{h0:Nat}{al:Option (List Nat)}{e:Env}{h:qh}{α:Type}
attribute [go_sem] List.getElem?_cons_zero List.getElem?_cons_succ List.getElem?_nil List.set_cons_zero List.set_cons_succ List.set_nil List.cons_append List.replicate_zero List.replicate_succ List.map_cons List.map_nil List.all_cons List.all_nil List.drop_zero List.drop_succ_cons List.take_zero List.take_succ_cons List.drop_nil List.take_nil Bool.and_true Bool.true_and Bool.or_false Bool.false_or Bool.and_self List.headD_cons List.foldl_cons List.foldl_nil List.flatMap_cons List.flatMap_nil
@[go_sem] theorem znl {k n}:qk (.int k n)=Gp:=rfl
@[go_sem] theorem zl4 {b}:qk (.bool b)=Gp:=rfl
@[go_sem] theorem zm3 {s}:qk (.str s)=Gp:=rfl
@[go_sem] theorem zmn {b z xs}:qk (.list b z xs)=Gp:=rfl
@[go_sem] theorem zny {b o n}:qk (.ms b o n)=Gp:=rfl
@[go_sem] theorem znb {b o}:qk (.ptr b o)=Gp:=rfl
@[go_sem] theorem zm2 {b}:qk (.map b)=Gp:=rfl
@[go_sem] theorem zcn:qk .b4=Gp:=rfl
@[go_sem] theorem zbl:qk .bY=Gp:=rfl
@[go_sem] theorem zke:qk .cz=Gp:=rfl
@[go_sem] theorem zn6 {f a b}:qk (.fn f a b)=Gp:=rfl
@[go_sem] theorem znv {z:Nat}{f:α→AVal}{l}:qk (sl z f l)=Gp:=by cases l<;>rfl
@[go_sem] theorem zlg {cs}:AVal.flat (.agg cs)=cs:=rfl
@[go_sem] theorem zjx {k n}:AVal.flat (.int k n)=[.int k n]:=rfl
@[go_sem] theorem zar {b}:AVal.flat (.bool b)=[.bool b]:=rfl
@[go_sem] theorem zk0 {s}:AVal.flat (.str s)=[.str s]:=rfl
@[go_sem] theorem zbj {b z xs}:AVal.flat (.list b z xs)=[.list b z xs]:=rfl
@[go_sem] theorem zmu {z:Nat}{f:α→AVal}{l}:AVal.flat (sl z f l)=[sl z f l]:=by cases l<;>rfl
@[go_sem] theorem ziv {b o}:AVal.flat (.ptr b o)=[.ptr b o]:=rfl
@[go_sem] theorem zd5 {b}:AVal.flat (.map b)=[.map b]:=rfl
@[go_sem] theorem zmb {f a b}:AVal.flat (.fn f a b)=[.fn f a b]:=rfl
@[go_sem] theorem zml {b o n}:AVal.flat (.ms b o n)=[.ms b o n]:=rfl
@[go_sem] theorem MU {a b}:Gn a b=decide (a=b):=by
 cases h:Gn a b with
 |true=>have:=Gt h;simp[this]
 |false=>
  have:a≠b:=fun hh=>by subst hh;simp at h
  simp[this]
@[go_sem] theorem nK {a b}:Gq a b=decide (a≤b):=by
 cases h:Gq a b with
 |true=>have:=Nat.le_of_ble_eq_true h;simp[this]
 |false=>
  have:¬a≤b:=fun hh=>by rw[Nat.ble_eq_true_of_le hh]at h;cases h
  simp[this]
@[go_sem] theorem vK {a b}:Gs a b=decide (a<b):=by
 show Gq (a+1) b=_
 rw[nK];rfl
@[go_sem] theorem zaa {b}:zd h0 En b=Gp:=rfl
@[go_sem] theorem zma:oR []=Ey:=rfl
@[go_sem] theorem zgy {k l}:oR (k::l)=decide (1000≤k):=by simp only[oR,nK]
@[go_sem] theorem zku {k b l}:AZ h0 (k::l) b=cond (decide (k<2000)) (decide (b=k-1000)&&decide (b<h0)) (cond (decide (k<4000)) (decide (b=h0+(k-2000))) (decide (b<h0))):=by
 have e:∀x y:Nat,Gn x y=decide (x=y):=fun x y=>by
  cases h:Gn x y with
  |true=>rw[Gt h];simp
  |false=>
   have:x≠y:=fun e=>by rw[e,Nat.beq_refl]at h;cases h
   simp[this]
 simp only[AZ,vK,e]
@[go_sem] theorem j62 {b l}:zd h0 (I l) b=cond (oR l) (AZ h0 l b) (decide (b<h0)||l.contains (b-h0)):=by simp only[zd,vK]
def fO (r:Option qh)(v:AVal):Option bj:=match r with
 |some h'=>I ⟨v,Ey,En,h'⟩
 |none=>En
@[go_sem] theorem zbm {v}:fO (I h) v=I ⟨v,Ey,En,h⟩:=rfl
@[go_sem] theorem zb8 {h0 r es}:MT h0 r h Gp (I es)=fO (aJ h0 h r (.map es)) (.map (h0+r)):=rfl
def WR (n:Nat)(h:qh)(b:Option bh)(x:bh):Option qh:=match b with
 |some .hole=>I (h.set n x)
 |_=>En
@[go_sem] theorem zai {n x}:WR n h (I .hole) x=I (h.set n x):=rfl
@[go_sem] theorem zb0 {r x}:aJ h0 h r x=WR (h0+r) h h[h0+r]? x:=by
 unfold aJ WR;rfl
def cr (b:Bool)(r:Option bj):Option bj:=match b with
 |true=>r
 |false=>En
@[go_sem] theorem zjc {r}:cr Gp r=r:=rfl
@[go_sem] theorem zmq {r z}:qf p xc h0 al e h (.alloc r z)=cr (z.all qk) (fO (aJ h0 h r (.cells (cellsOf z))) (.ptr (h0+r) 0)):=by
 simp only[qf,qp,cr]
 cases z.all qk with
 |false=>rfl
 |true=>simp only[cond_true,fO];cases aJ h0 h r (.cells (cellsOf z))<;>rfl
def WS (n:Nat)(h:qh)(x:Option AVal):Option bj:=match x with
 |some v=>cr (Gn v.flat.length n&&v.flat.all qk) (I ⟨.ah v,Ey,En,h⟩)
 |none=>En
@[go_sem] theorem j6g {n v}:WS n h (I v)=cr (Gn v.flat.length n&&v.flat.all qk) (I ⟨.ah v,Ey,En,h⟩):=rfl
@[go_sem] theorem zm0 {n x}:qf p xc h0 al e h (.oP n x)=WS n h (qi e x):=by
 simp only[qf,qo,WS]
 cases qi e x with
 |none=>rfl
 |some v=>
  simp only[cr]
  cases (Gn v.flat.length n&&v.flat.all qk)<;>rfl
def WT (h0 r n:Nat)(h:qh)(x:Option AVal):Option bj:=match x with
 |some v=>cr (Gn v.flat.length n&&v.flat.all qk) (fO (aJ h0 h r (.cells (cellsOf v.flat))) (.ptr (h0+r) 0))
 |none=>En
@[go_sem] theorem zcc {r n v}:WT h0 r n h (I v)=cr (Gn v.flat.length n&&v.flat.all qk) (fO (aJ h0 h r (.cells (cellsOf v.flat))) (.ptr (h0+r) 0)):=rfl
@[go_sem] theorem znn {r n x}:qf p xc h0 al e h (.box r n x)=WT h0 r n h (qi e x):=by
 simp only[qf,qp,WT]
 cases qi e x with
 |none=>rfl
 |some v=>
  simp only[cr,fO]
  cases (Gn v.flat.length n&&v.flat.all qk)with
  |false=>rfl
  |true=>simp only[cond_true];cases aJ h0 h r (.cells (cellsOf v.flat))<;>rfl
@[go_sem] theorem q9h {r}:qf p xc h0 al e h (.dW r)=fO (aJ h0 h r (.map [])) (.map (h0+r)):=by
 simp only[qf,qp,fO]
 cases aJ h0 h r (.map [])<;>rfl
@[go_sem] theorem jz7:cellsOf []=[]:=rfl
@[go_sem] theorem jwc {v vs}:cellsOf (v::vs)=(v,Ey)::cellsOf vs:=rfl
def vL (agg:Bool)(h:qh)(r:Option AVal):Option bj:=match r with
 |some v=>bif Bool.xor agg v.isAgg then En else val h (.ah v)
 |none=>En
def E2 (agg:Bool)(off n:Nat)(h:qh)(x:Option AVal):Option bj:=match x with
 |some (.ptr b o)=>val h (.ptr b (o+off))
 |some (.ah (.agg cs))=>vL agg h (part agg cs off n)
 |some (.dQ b bG o)=>val h (.dQ b bG (o+off))
 |_=>En
@[go_sem] theorem jsp {agg off n b v o}:E2 agg off n h (I (.dQ b v o))=I ⟨.dQ b v (o+off),Ey,En,h⟩:=rfl
@[go_sem] theorem jsg {agg off n b o}:E2 agg off n h (I (.ptr b o))=I ⟨.ptr b (o+off),Ey,En,h⟩:=rfl
@[go_sem] theorem jr2 {agg off n cs}:E2 agg off n h (I (.ah (.agg cs)))=vL agg h (part agg cs off n):=rfl
@[go_sem] theorem j0m {agg off n x}:qf p xc h0 al e h (.fieldAddr agg off n x)=E2 agg off n h (qi e x):=by
 simp only[qf,qo,E2]
 cases qi e x with
 |none=>rfl
 |some v=>cases v with
  |ah v=>cases v<;>rfl
  |_=>rfl
def zng (v:AVal):Prop:=v.isAgg=Ey
theorem zck {v}(hv:v.isAgg=Ey):vL Ey h (I v)=I ⟨.ah v,Ey,En,h⟩:=by simp[vL,hv,val]
@[go_sem] theorem zbt {k n}:vL Ey h (I (.int k n))=I ⟨.ah (.int k n),Ey,En,h⟩:=rfl
@[go_sem] theorem zcl {s}:vL Ey h (I (.str s))=I ⟨.ah (.str s),Ey,En,h⟩:=rfl
@[go_sem] theorem j2m {b}:vL Ey h (I (.bool b))=I ⟨.ah (.bool b),Ey,En,h⟩:=rfl
@[go_sem] theorem zev {z:Nat}{f:α→AVal}{l}:vL Ey h (I (sl z f l))=I ⟨.ah (sl z f l),Ey,En,h⟩:=by cases l<;>rfl
@[go_sem] theorem zby {cs}:vL Gp h (I (.agg cs))=I ⟨.ah (.agg cs),Ey,En,h⟩:=rfl
@[go_sem] theorem zie {cs off n}:part Ey cs off n=cs[off]?:=rfl
def WU (b:Bool)(cs:List AVal)(off n:Nat):Option AVal:=match b with
 |true=>I (.agg ((cs.drop off).take n))
 |false=>En
@[go_sem] theorem j9k {cs off n}:WU Gp cs off n=I (.agg ((cs.drop off).take n)):=rfl
@[go_sem] theorem zde {cs off n}:part Gp cs off n=WU (decide (off+n≤cs.length)) cs off n:=by
 simp only[part,WU,cond_true,nK]
 cases decide (off+n≤cs.length)<;>rfl
@[go_sem] theorem ze3 {z:Nat}{f:α→AVal}{l}:gC h0 al Ey 1 h (I (.ah (sl z f l)))=I ⟨sl z f l,Ey,En,h⟩:=by cases l<;>rfl
def WV (h:qh)(cs:List AVal)(b:Bool):Option bj:=match b with
 |true=>I ⟨.agg cs,Ey,En,h⟩
 |false=>En
@[go_sem] theorem zax {cs}:WV h cs Gp=I ⟨.agg cs,Ey,En,h⟩:=rfl
@[go_sem] theorem j4j {n cs}:gC h0 al Gp n h (I (.ah (.agg cs)))=WV h cs (decide (cs.length=n)):=by
 unfold WV
 by_cases hn:cs.length=n
 ·rw[jgq hn];simp[hn]
 ·simp[gC,AVal.isAgg,AVal.flat,hn,MU]
def H4 (agg:Bool)(h:qh)(vs:Option (List AVal)):Option bj:=match vs with
 |some vs=>bif agg then val h (.agg vs)else(match vs with
  | [v]=>val h v
  |_=>En)
 |none=>En
@[go_sem] theorem zez {vs}:H4 Gp h (I vs)=I ⟨.agg vs,Ey,En,h⟩:=rfl
@[go_sem] theorem zd1 {v}:H4 Ey h (I [v])=I ⟨v,Ey,En,h⟩:=rfl
def WW (b:Option bh):Option (List (AVal×Bool)):=match b with
 |some (.cells cs)=>I cs
 |_=>En
@[go_sem] theorem jzz {cs}:WW (I (.cells cs))=I cs:=rfl
@[go_sem] theorem q7p {b}:jy h b=WW h[b]?:=by unfold jy WW;rfl
def WX (b:Bool)(cs:List (AVal×Bool))(off n:Nat):Option (List AVal):=match b with
 |true=>I (((cs.drop off).take n).map (·.1))
 |false=>En
@[go_sem] theorem zi5 {cs off n}:WX Gp cs off n=I (((cs.drop off).take n).map (·.1)):=rfl
@[go_sem] theorem jvd {cs off n}:zn cs off n=WX (decide (off+n≤cs.length)) cs off n:=by
 simp only[zn,WX,nK]
 cases decide (off+n≤cs.length)<;>rfl
def WY (agg:Bool)(o n:Nat)(h:qh)(cs:Option (List (AVal×Bool))):Option bj:=match cs with
 |some cs=>H4 agg h (zn cs o n)
 |none=>En
@[go_sem] theorem zbp {agg o n cs}:WY agg o n h (I cs)=H4 agg h (zn cs o n):=rfl
@[go_sem] theorem za5 {agg n b o}:gC h0 al agg n h (I (.ptr b o))=cr (zd h0 al b) (WY agg o n h (jy h b)):=by
 simp only[gC,cr,WY,H4]
 cases zd h0 al b with
 |false=>rfl
 |true=>
  simp only[cond_true]
  cases jy h b with
  |none=>rfl
  |some cs=>simp only[];cases zn cs o n<;>rfl
def MV (r:Option qh)(v:AVal)(w:Bool):Option bj:=match r with
 |some h'=>I ⟨v,w,En,h'⟩
 |none=>En
@[go_sem] theorem j1h {v w}:MV (I h) v w=I ⟨v,w,En,h⟩:=rfl
def MW (h:qh)(b o:Nat)(cs:List (AVal×Bool))(x:Option (AVal×Bool)):Option bj:=match x with
 |some (v,w)=>MV (jt h b (.cells (cs.set o (v,Ey)))) v w
 |none=>En
@[go_sem] theorem j6x {b o cs v w}:MW h b o cs (I (v,w))=MV (jt h b (.cells (cs.set o (v,Ey)))) v w:=rfl
def MX (h:qh)(b o:Nat)(cs:Option (List (AVal×Bool))):Option bj:=match cs with
 |some cs=>MW h b o cs cs[o]?
 |none=>En
@[go_sem] theorem j1e {b o cs}:MX h b o (I cs)=MW h b o cs cs[o]?:=rfl
def WZ (h0:Nat)(al:Option (List Nat))(off:Option Nat)(h:qh)(x:Option AVal):Option bj:=match x with
 |some (.ptr b o)=>cr (zd h0 al b&&vi off o) (MX h b o (jy h b))
 |_=>En
@[go_sem] theorem jsm {off b o}:WZ h0 al off h (I (.ptr b o))=cr (zd h0 al b&&vi off o) (MX h b o (jy h b)):=rfl
@[go_sem] theorem j5j {o}:vi En o=Gp:=rfl
@[go_sem] theorem j92 {a o}:vi (I a) o=decide (a=o):=by simp only[vi,MU]
@[go_sem] theorem j64 {off x}:qf p xc h0 al e h (.cE off x)=WZ h0 al off h (qi e x):=by
 simp only[qf,qp,WZ]
 cases qi e x with
 |none=>rfl
 |some v=>cases v with
  |ptr b o=>
   simp only[cr,MX,MW,MV]
   cases (zd h0 al b&&vi off o)with
   |false=>rfl
   |true=>
    simp only[cond_true]
    cases jy h b with
    |none=>rfl
    |some cs=>
     simp only[]
     cases cs[o]? with
     |none=>rfl
     |some c=>
      obtain⟨v,w⟩:=c
      simp only[]
      cases jt h b (.cells (cs.set o (v,Ey)))<;>rfl
  |_=>rfl
def W0 (b:Bool)(n:Nat)(x:bh)(h:qh):Option qh:=match b with
 |true=>I (h.set n x)
 |false=>En
@[go_sem] theorem za2 {n x}:W0 Gp n x h=I (h.set n x):=rfl
@[go_sem] theorem zat {b x}:jt h b x=W0 (decide (b<h.length)) b x h:=by
 simp only[jt,W0,vK]
 cases decide (b<h.length)<;>rfl
def W1 (b:Bool)(cs:List (AVal×Bool))(off:Nat)(vs:List AVal):Option (List (AVal×Bool)):=match b with
 |true=>I (cs.take off++vs.map (·,Ey)++cs.drop (off+vs.length))
 |false=>En
@[go_sem] theorem zfh {cs off vs}:W1 Gp cs off vs=I (cs.take off++vs.map (·,Ey)++cs.drop (off+vs.length)):=rfl
@[go_sem] theorem jsf {cs off vs}:jw cs off vs=W1 (decide (off+vs.length≤cs.length)&&vs.all qk) cs off vs:=by
 simp only[jw,W1,nK]
 cases (decide (off+vs.length≤cs.length)&&vs.all qk)<;>rfl
def zn8 (e:Env)(x:jx):Option Nat:=zu e x
def MY (t:Nat)(x:Option (AVal×Bool)):Option Nat:=match x with
 |some (_,Gp)=>I t
 |_=>En
@[go_sem] theorem zam {t v}:MY t (I (v,Gp))=I t:=rfl
@[go_sem] theorem j8y {t v}:MY t (I (v,Ey))=En:=rfl
@[go_sem] theorem zaz {t}:zu e (.tmp t)=MY t (jj t e):=by
 simp only[zu,MY];rfl
@[go_sem] theorem j0l {v}:zu e (.const v)=En:=rfl
def MZ (h:qh)(b:Nat)(cs:Option (List (AVal×Bool))):Option bj:=match cs with
 |some eK=>fO (jt h b (.cells eK)) .undef
 |none=>En
@[go_sem] theorem jy3 {b cs}:MZ h b (I cs)=fO (jt h b (.cells cs)) .undef:=rfl
def M0 (t:Nat)(r:Option qh):Option bj:=match r with
 |some h'=>I ⟨.undef,Ey,I t,h'⟩
 |none=>En
@[go_sem] theorem j3f {t}:M0 t (I h)=I ⟨.undef,Ey,I t,h⟩:=rfl
def H5 (n:Nat)(h:qh)(b o:Nat)(v:AVal)(own:Option Nat)(cs:Option (List (AVal×Bool))):Option bj:=match cs,own with
 |some cs,I t=>cr (Gn n 1&&v.cS&&Gs o cs.length) (M0 t (jt h b (.cells (cs.set o (v,Gp)))))
 |some cs,En=>cr (Gn v.flat.length n) (MZ h b (jw cs o v.flat))
 |none,_=>En
@[go_sem] theorem j5p {n b o t v cs}:H5 n h b o v (I t) (I cs)=cr (Gn n 1&&v.cS&&Gs o cs.length) (M0 t (jt h b (.cells (cs.set o (v,Gp))))):=rfl
@[go_sem] theorem jv2 {n b o v cs}:H5 n h b o v En (I cs)=cr (Gn v.flat.length n) (MZ h b (jw cs o v.flat)):=rfl
def W2 (h0:Nat)(al:Option (List Nat))(n:Nat)(h:qh)(own:Option Nat)(a x:Option AVal):Option bj:=match a,x with
 |some (.ptr b o),I v=>cr (zd h0 al b) (H5 n h b o v own (jy h b))
 |_,_=>En
@[go_sem] theorem j8h {n b o own v}:W2 h0 al n h own (I (.ptr b o)) (I v)=cr (zd h0 al b) (H5 n h b o v own (jy h b)):=rfl
@[go_sem] theorem zmc {n a x}:qf p xc h0 al e h (.store n a x)=W2 h0 al n h (zu e x) (qi e a) (qi e x):=by
 simp only[qf,qp,W2]
 cases qi e a with
 |none=>rfl
 |some va=>
  cases va with
  |ptr b o=>
   cases qi e x with
   |none=>rfl
   |some v=>
    simp only[cr]
    cases zd h0 al b with
    |false=>rfl
    |true=>
     simp only[cond_true]
     cases jy h b with
     |none=>rfl
     |some cs=>
      simp only[H5]
      cases zu e x with
      |none=>
       simp only[cr,MZ,fO]
       cases Gn v.flat.length n with
       |false=>rfl
       |true=>
        simp only[cond_true]
        cases jw cs o v.flat with
        |none=>rfl
        |some eK=>simp only[];cases jt h b (.cells eK)<;>rfl
      |some t=>
       simp only[cr,M0]
       cases (Gn n 1&&v.cS&&Gs o cs.length)with
       |false=>rfl
       |true=>simp only[cond_true];cases jt h b (.cells (cs.set o (v,Gp)))<;>rfl
  |_=>rfl
@[go_sem] theorem j0d {b z xs}:AVal.cS (.list b z xs)=Gp:=rfl
@[go_sem] theorem zcf {z:Nat}{f:α→AVal}{l}:AVal.cS (sl z f l)=Gp:=by cases l<;>rfl
def M1 (b:Bool)(off:Nat)(vs:List AVal)(l:Option (List (Nat×List AVal))):Option (List (Nat×List AVal)):=match b,l with
 |true,I r=>I ((off,vs)::r)
 |_,_=>En
@[go_sem] theorem jzx {off vs r}:M1 Gp off vs (I r)=I ((off,vs)::r):=rfl
def W3 (x:Option AVal)(off n:Nat)(l:Option (List (Nat×List AVal))):Option (List (Nat×List AVal)):=match x with
 |some v=>M1 (Gn v.flat.length n&&v.flat.all qk) off v.flat l
 |none=>En
@[go_sem] theorem j0h {v off n l}:W3 (I v) off n l=M1 (Gn v.flat.length n&&v.flat.all qk) off v.flat l:=rfl
@[go_sem] theorem jsq:kr e []=I []:=rfl
@[go_sem] theorem jry {off n x l}:kr e ((off,n,x)::l)=W3 (qi e x) off n (kr e l):=by
 simp only[kr,W3,M1]
 cases qi e x with
 |none=>rfl
 |some v=>simp only[];cases (Gn v.flat.length n&&v.flat.all qk)<;>cases kr e l<;>rfl
def kG (h:qh)(zero:List AVal)(ps:Option (List (Nat×List AVal))):Option bj:=match ps with
 |some ps=>oz h (jW zero ps)
 |none=>En
where oz (h:qh) (r:Option (List AVal)):Option bj:=match r with
 |some cs=>I ⟨.agg cs,Ey,En,h⟩
 |none=>En
@[go_sem] theorem j9l {zero ps}:kG h zero (I ps)=kG.oz h (jW zero ps):=rfl
@[go_sem] theorem j6y {cs}:kG.oz h (I cs)=I ⟨.agg cs,Ey,En,h⟩:=rfl
@[go_sem] theorem zmk {zero ps}:qf p xc h0 al e h (.build zero ps)=kG h zero (kr e ps):=by
 simp only[qf,qo,kG,kG.oz]
 cases kr e ps with
 |none=>rfl
 |some ps=>simp only[];cases jW zero ps<;>rfl
@[go_sem] theorem zae {cs}:jW cs []=I cs:=rfl
def W4 (b:Bool)(cs:List AVal)(off:Nat)(vs:List AVal)(l:List (Nat×List AVal)):Option (List AVal):=match b with
 |true=>jW (cs.take off++vs++cs.drop (off+vs.length)) l
 |false=>En
@[go_sem] theorem j5k {cs off vs l}:W4 Gp cs off vs l=jW (cs.take off++vs++cs.drop (off+vs.length)) l:=rfl
@[go_sem] theorem j37 {cs off vs l}:jW cs ((off,vs)::l)=W4 (decide (off+vs.length≤cs.length)) cs off vs l:=by
 simp only[jW,W4,nK]
 cases decide (off+vs.length≤cs.length)<;>rfl
def gS (x:Option AVal)(i sz:Nat)(l:Option (List (Nat×AVal))):Option (List (Nat×AVal)):=match x with
 |some v=>lh (Gn v.flat.length sz&&v.flat.all qk) i v l
 |none=>En
where lh (b:Bool) (i:Nat) (v:AVal) (l:Option (List (Nat×AVal))):Option (List (Nat×AVal)):=match b,l with
 |true,I r=>I ((i,v)::r)
 |_,_=>En
@[go_sem] theorem j0q {v i sz l}:gS (I v) i sz l=gS.lh (Gn v.flat.length sz&&v.flat.all qk) i v l:=rfl
@[go_sem] theorem j0u {v i r}:gS.lh Gp i v (I r)=I ((i,v)::r):=rfl
@[go_sem] theorem jsl {sz}:yi e sz []=I []:=rfl
@[go_sem] theorem jqb {sz i x l}:yi e sz ((i,x)::l)=gS (qi e x) i sz (yi e sz l):=by
 simp only[yi,gS,gS.lh]
 cases qi e x with
 |none=>rfl
 |some v=>simp only[];cases (Gn v.flat.length sz&&v.flat.all qk)<;>cases yi e sz l<;>rfl
@[go_sem] theorem zak {xs}:lH xs []=I xs:=rfl
def W5 (b:Bool)(xs:List AVal)(i:Nat)(v:AVal)(l:List (Nat×AVal)):Option (List AVal):=match b with
 |true=>lH (xs.set i v) l
 |false=>En
@[go_sem] theorem j0p {xs i v l}:W5 Gp xs i v l=lH (xs.set i v) l:=rfl
@[go_sem] theorem j7c {xs i v l}:lH xs ((i,v)::l)=W5 (decide (i<xs.length)) xs i v l:=by
 simp only[lH,W5,vK]
 cases decide (i<xs.length)<;>rfl
def gT (sz:Nat)(h:qh)(xs:List AVal)(ps:Option (List (Nat×AVal))):Option bj:=match ps with
 |some ps=>li sz h (lH xs ps)
 |none=>En
where li (sz:Nat) (h:qh) (r:Option (List AVal)):Option bj:=match r with
 |some xs=>I ⟨.list Ey sz xs,Gp,En,h⟩
 |none=>En
@[go_sem] theorem j0s {sz xs ps}:gT sz h xs (I ps)=gT.li sz h (lH xs ps):=rfl
@[go_sem] theorem j0o {sz xs}:gT.li sz h (I xs)=I ⟨.list Ey sz xs,Gp,En,h⟩:=rfl
@[go_sem] theorem jxk {sz len zero ps}:qf p xc h0 al e h (.buildSlice sz len zero ps)=gT sz h (List.replicate len (bif Gn sz 1 then zero.headD .undef else .agg zero)) (yi e sz ps):=by
 simp only[qf,qo,gT,gT.li]
 cases yi e sz ps with
 |none=>rfl
 |some ps=>simp only[];cases lH (List.replicate len (bif Gn sz 1 then zero.headD .undef else .agg zero)) ps<;>rfl
def bM (sz bytes:Nat)(h:qh)(own:Option Nat)(x y:Option AVal):Option bj:=match x,y with
 |some (.list n dq xs),I vy=>cr (n||own.isSome) (iE sz bytes h own n dq xs (z7 sz vy))
 |_,_=>En
where iE (sz bytes:Nat) (h:qh) (own:Option Nat) (n:Bool) (dq:Nat) (xs:List AVal) (ys:Option (List AVal)):Option bj:=match ys with
 |some ys=>cr ((Gn sz dq||(xs.isEmpty&&n))&&Gq (xs.length+ys.length) 1073741824&&Gq bytes 4096&&Gs 0 sz) (I ⟨qN n sz xs ys,Gp,own,h⟩)
 |none=>En
@[go_sem] theorem zal {sz bytes own n dq xs vy}:bM sz bytes h own (I (.list n dq xs)) (I vy)=cr (n||own.isSome) (bM.iE sz bytes h own n dq xs (z7 sz vy)):=rfl
@[go_sem] theorem zbq {sz bytes own n dq xs ys}:bM.iE sz bytes h own n dq xs (I ys)=cr ((Gn sz dq||(xs.isEmpty&&n))&&Gq (xs.length+ys.length) 1073741824&&Gq bytes 4096&&Gs 0 sz) (I ⟨qN n sz xs ys,Gp,own,h⟩):=rfl
@[go_sem] theorem zir {sz bytes x y}:qf p xc h0 al e h (.append En sz bytes x y)=bM sz bytes h (zu e x) (qi e x) (qi e y):=by
 simp only[qf,qo,bM,bM.iE]
 cases qi e x with
 |none=>rfl
 |some vx=>
  cases vx with
  |list n dq xs=>
   cases qi e y with
   |none=>rfl
   |some vy=>
    simp only[cr]
    cases (n||(zu e x).isSome)with
    |false=>rfl
    |true=>
     simp only[cond_true]
     cases z7 sz vy with
     |none=>rfl
     |some ys=>simp only[];cases ((Gn sz dq||(xs.isEmpty&&n))&&Gq (xs.length+ys.length) 1073741824&&Gq bytes 4096&&Gs 0 sz)<;>rfl
  |_=>cases qi e y<;>rfl
@[go_sem] theorem W8 {z:Nat}{f:α→AVal}{l}:z7 z (sl z f l)=I ((l.getD []).map f):=by
 cases l<;>simp[z7,sl]
@[go_sem] theorem zgp {z b xs}:z7 z (.list b z xs)=I xs:=by simp[z7]
@[go_sem] theorem zmx {z z' b}:z7 z (.list b z' [])=I []:=by simp[z7]
@[go_sem] theorem jz3 {z xs ys}:qN Ey z xs ys=.list Ey z (xs++ys):=rfl
@[go_sem] theorem j1l {z b xs y ys}:qN b z xs (y::ys)=.list Ey z (xs++y::ys):=by cases b<;>rfl
attribute [go_sem] Option.isSome_some Option.isSome_none Bool.or_true Bool.true_or List.isEmpty_nil List.isEmpty_cons Bool.and_false Bool.false_and
def W9 (h:qh)(i:Nat)(x:Option AVal):Option bj:=match x with
 |some (.aB vs)=>gK h vs[i]?
 |_=>En
@[go_sem] theorem jui {i vs}:W9 h i (I (.aB vs))=gK h vs[i]?:=rfl
@[go_sem] theorem zcg {i x}:qf p xc h0 al e h (.extract x i)=W9 h i (qi e x):=by
 simp only[qf,qo,W9]
 cases qi e x with
 |none=>rfl
 |some v=>cases v<;>rfl
def Xa (op:UnOp)(h:qh)(x:Option AVal):Option bj:=match x with
 |some v=>gK h (yJ op v)
 |none=>En
@[go_sem] theorem zgz {op v}:Xa op h (I v)=gK h (yJ op v):=rfl
@[go_sem] theorem zn9 {op x}:qf p xc h0 al e h (.un op x)=Xa op h (qi e x):=by
 simp only[qf,qo,Xa]
 cases qi e x<;>rfl
@[go_sem] theorem zni {b}:yJ .not (.bool b)=I (.bool (!b)):=rfl
@[go_sem] theorem znh {k n}:yJ .neg (.int k n)=I (.int k (qe k (0-n))):=rfl
def Xb (neq:Bool)(h:qh)(x y:Option AVal):Option bj:=match x,y with
 |some (.bool a),I (.bool b)=>val h (.bool (bif neq then !(a == b)else a == b))
 |_,_=>En
@[go_sem] theorem zb6 {neq a b}:Xb neq h (I (.bool a)) (I (.bool b))=I ⟨.bool (bif neq then !(a == b)else a == b),Ey,En,h⟩:=rfl
@[go_sem] theorem znm {neq x y}:qf p xc h0 al e h (.beq neq x y)=Xb neq h (qi e x) (qi e y):=by
 simp only[qf,qo,Xb]
 cases qi e x with
 |none=>rfl
 |some v=>cases v<;>cases qi e y<;>rfl
def Xc (f:Fn)(h:qh)(a b:Option (List AVal)):Option bj:=match a,b with
 |some a,I b=>val h (.fn f a b)
 |_,_=>En
@[go_sem] theorem jyr {f a b}:Xc f h (I a) (I b)=I ⟨.fn f a b,Ey,En,h⟩:=rfl
@[go_sem] theorem zh3 {f a b}:qf p xc h0 al e h (.gJ f a b)=Xc f h (gk e a) (gk e b):=by
 simp only[qf,qo,Xc]
 cases gk e a<;>cases gk e b<;>rfl
def H6 (f:AVal→AVal→Option AVal)(h:qh)(l:Option (List AVal)):Option bj:=match l with
 |some (v::vs)=>gK h (od f v vs)
 |_=>En
@[go_sem] theorem zk4 {f v vs}:H6 f h (I (v::vs))=gK h (od f v vs):=rfl
@[go_sem] theorem zn7 {l}:qf p xc h0 al e h (.mx l)=H6 max2 h (gk e l):=by
 simp only[qf,qo,H6]
 cases gk e l with
 |none=>rfl
 |some vs=>cases vs<;>rfl
@[go_sem] theorem zob {l}:qf p xc h0 al e h (.mn l)=H6 min2 h (gk e l):=by
 simp only[qf,qo,H6]
 cases gk e l with
 |none=>rfl
 |some vs=>cases vs<;>rfl
def Xd (f:AVal→AVal→Option AVal)(x:Option AVal)(l:List AVal):Option AVal:=match x with
 |some z=>od f z l
 |none=>En
@[go_sem] theorem j8l {f x l}:Xd f (I x) l=od f x l:=rfl
@[go_sem] theorem zcm {f x}:od f x []=I x:=rfl
@[go_sem] theorem j46 {f x y l}:od f x (y::l)=Xd f (f x y) l:=by
 simp only[od,Xd];rfl
@[go_sem] theorem zem {k x y}:max2 (.int k x) (.int k y)=I (.int k (max x y)):=by
 simp only[max2,decide_true,cond_true]
 congr 2
 by_cases h:y > x
 ·rw[if_pos h];omega
 ·rw[if_neg h];omega
@[go_sem] theorem zk8 {k x y}:min2 (.int k x) (.int k y)=I (.int k (min x y)):=by
 simp only[min2,decide_true,cond_true]
 congr 2
 by_cases h:y<x
 ·rw[if_pos h];omega
 ·rw[if_neg h];omega
def Xe (k:Nat)(neq:Bool)(h:qh)(x:Option AVal):Option bj:=match k,x with
  |0,I (.list n _ _)=>val h (.bool (bif neq then !n else n))
  |0,I (.ms ..)=>val h (.bool neq)
  |1,I .b4=>val h (.bool (!neq))
  |1,I (.ptr ..)=>val h (.bool neq)
  |1,I (.ah ..)=>val h (.bool neq)
  |2,I .bY=>val h (.bool (!neq))
  |2,I (.map ..)=>val h (.bool neq)
  |3,I .cz=>val h (.bool (!neq))
  |3,I (.fn ..)=>val h (.bool neq)
  |_,_=>En
@[go_sem] theorem zmw {k neq x}:qf p xc h0 al e h (.fI k neq x)=Xe k neq h (qi e x):=rfl
@[go_sem] theorem j13 {neq n z xs}:Xe 0 neq h (I (.list n z xs))=I ⟨.bool (bif neq then !n else n),Ey,En,h⟩:=rfl
@[go_sem] theorem zbz {n k i}:below n (.int k i)=Gp:=rfl
@[go_sem] theorem j8j {n b}:below n (.bool b)=Gp:=rfl
@[go_sem] theorem zb3 {n s}:below n (.str s)=Gp:=rfl
@[go_sem] theorem j8i {n b z xs}:below n (.list b z xs)=qx n xs:=by simp only[below]
@[go_sem] theorem zbu {n xs}:below n (.agg xs)=qx n xs:=by simp only[below]
@[go_sem] theorem zb2 {n xs}:below n (.aB xs)=qx n xs:=by simp only[below]
@[go_sem] theorem zb5 {n b o}:below n (.ptr b o)=decide (b<n):=by simp only[below,vK]
@[go_sem] theorem zba {n b}:below n (.map b)=decide (b<n):=by simp only[below,vK]
@[go_sem] theorem zlb {n k a b}:below n (.fn (.func k) a b)=(qx n a&&qx n b):=by simp only[below]
@[go_sem] theorem j6m {n}:qx n []=Gp:=by simp only[qx]
@[go_sem] theorem q7q {n x xs}:qx n (x::xs)=(below n x&&qx n xs):=by simp only[qx]
@[go_sem] theorem j3h {n i}:below n (jm i)=Gp:=rfl
@[go_sem] theorem j4v {n z l}:below n (sl z jm l)=Gp:=vJ fun _=>rfl
theorem qwf {n f}(hf:∀x,below n (f x)=Gp):∀l:List α,qx n (l.map f)=Gp
 | []=>rfl
 |x::l=>by rw[List.map_cons,q7q,hf,qwf hf l];rfl
@[go_sem] theorem jz6 {n:Nat}{l:List Int}:qx n (l.map jm)=Gp:=qwf (fun _=>rfl) l
@[go_sem] theorem zms {k i}:kx h (.int k i)=I (.int k i):=rfl
@[go_sem] theorem zhz {b}:kx h (.bool b)=I (.bool b):=rfl
@[go_sem] theorem zmy {s}:kx h (.str s)=I (.str s):=rfl
@[go_sem] theorem zcs {b z xs}:kx h (.list b z xs)=I (.list b z xs):=rfl
@[go_sem] theorem jy9 {z:Nat}{f:α→AVal}{l}:kx h (sl z f l)=I (sl z f l):=by cases l<;>rfl
@[go_sem] theorem zho:lI h []=I []:=rfl
@[go_sem] theorem zah {v vs}:lI h (v::vs)=pT (kx h v) (lI h vs):=by
 simp only[lI,pT]
 cases kx h v with
 |none=>rfl
 |some x=>cases lI h vs<;>rfl
def M2 (l:Option (List AVal)):Option AVal:=match l with
 |some xs=>I (.agg xs)
 |none=>En
@[go_sem] theorem zb4 {xs}:M2 (I xs)=I (.agg xs):=rfl
@[go_sem] theorem Xf {cs}:aF h (.agg cs)=M2 (lI h cs):=by
 simp only[aF,M2]
 cases lI h cs<;>rfl
@[go_sem] theorem zls {k i}:aF h (.int k i)=I (.int k i):=rfl
@[go_sem] theorem zbh {b}:aF h (.bool b)=I (.bool b):=rfl
@[go_sem] theorem zcw {s}:aF h (.str s)=I (.str s):=rfl
@[go_sem] theorem zab {b z xs}:aF h (.list b z xs)=I (.list b z xs):=rfl
@[go_sem] theorem zmj {z:Nat}{f:α→AVal}{l}:aF h (sl z f l)=I (sl z f l):=by cases l<;>rfl
def Xg (l:Option (List AVal)):Option AVal:=match l with
 |some xs=>I (.aB xs)
 |none=>En
@[go_sem] theorem zbn {xs}:Xg (I xs)=I (.aB xs):=rfl
@[go_sem] theorem zj9 {cs}:aF h (.aB cs)=Xg (aF.bC h cs):=by
 simp only[aF,Xg]
 cases aF.bC h cs<;>rfl
@[go_sem] theorem zjj:aF.bC h []=I []:=rfl
@[go_sem] theorem zc5 {cs vs}:aF.bC h (.agg cs::vs)=pT (M2 (lI h cs)) (aF.bC h vs):=by
 rw[aF.bC]
 cases lI h cs with
 |none=>rfl
 |some x=>cases aF.bC h vs<;>rfl
theorem H7 {v vs}(hv:v.isAgg=Ey):aF.bC h (v::vs)=pT (kx h v) (aF.bC h vs):=by
 have:∀cs,v≠.agg cs:=fun cs hc=>by rw[hc]at hv;cases hv
 rw[aF.bC]
 ·cases kx h v with
  |none=>rfl
  |some x=>cases aF.bC h vs<;>rfl
 ·exact this
@[go_sem] theorem zkm {k i vs}:aF.bC h (.int k i::vs)=pT (I (.int k i)) (aF.bC h vs):=H7 rfl
@[go_sem] theorem zan {b vs}:aF.bC h (.bool b::vs)=pT (I (.bool b)) (aF.bC h vs):=H7 rfl
@[go_sem] theorem zka {s vs}:aF.bC h (.str s::vs)=pT (I (.str s)) (aF.bC h vs):=H7 rfl
@[go_sem] theorem za8 {b z xs vs}:aF.bC h (.list b z xs::vs)=pT (I (.list b z xs)) (aF.bC h vs):=H7 rfl
@[go_sem] theorem zme {z:Nat}{f:α→AVal}{l vs}:aF.bC h (sl z f l::vs)=pT (I (sl z f l)) (aF.bC h vs):=by
 rw[H7 (by cases l<;>rfl),jy9]
attribute [go_sem] List.contains_cons List.contains_nil
@[go_sem] theorem zmm {a b:Nat}:(a == b)=decide (a=b):=by
 by_cases qP:a=b<;>simp[qP]
def H8 (agg:Bool)(c:Option (AVal×Bool))(vs:Option (List AVal)):Option (AVal×Bool):=match vs,agg with
 |some vs,Gp=>I (.agg vs,Ey)
 |some _,Ey=>c
 |none,_=>En
@[go_sem] theorem zbe {c vs}:H8 Gp c (I vs)=I (.agg vs,Ey):=rfl
@[go_sem] theorem zci {c vs}:H8 Ey c (I vs)=c:=rfl
def M3 (agg:Bool)(o n:Nat)(cs:Option (List (AVal×Bool))):Option (AVal×Bool):=match cs with
 |some cs=>H8 agg cs[o]? (zn cs o n)
 |none=>En
@[go_sem] theorem j7x {agg o n cs}:M3 agg o n (I cs)=H8 agg cs[o]? (zn cs o n):=rfl
def Xh (agg:Bool)(n:Nat)(h:qh)(x:Option (AVal×Bool)):Option (AVal×Bool):=match x with
 |some (.ptr b o,_)=>M3 agg o n (jy h b)
 |_=>En
@[go_sem] theorem zbr {agg n b o w}:Xh agg n h (I (.ptr b o,w))=M3 agg o n (jy h b):=rfl
@[go_sem] theorem jsv {t n agg}:vj ⟨e,h⟩ (.cell t agg n)=Xh agg n h (jj t e):=by
 simp only[vj,Xh]
 cases jj t e with
 |none=>rfl
 |some x=>
  obtain⟨v,w⟩:=x
  cases v with
  |ptr b o=>
   simp only[M3]
   cases jy h b with
   |none=>rfl
   |some cs=>
    simp only[H8]
    cases zn cs o n with
    |none=>rfl
    |some vs=>cases agg with
     |true=>rfl
     |false=>simp only[cond_false];cases cs[o]?<;>rfl
  |_=>rfl
theorem yd {k args v v' o}(hp:p.cO k=En)(hc:qm p xc k args []=I (v,o,h))(hz:aF h v=I v')(hv:below 0 v'=Gp):qc p xc k args=I (v',o&&v.cS):=by
 unfold qc
 rw[hp]
 simp only[hc,hz,mG,hv,cond_true]
end
end Go.Abs
