/- Equations of the executor, second part. -/
import Derived.Test.YtlhfdilpecnjeaaGreatDoorAbsI
set_option linter.unusedVariables false
set_option linter.unusedSimpArgs false
open Option renaming some->I,none->En
open Bool renaming false->E6,true->Hb
open Nat renaming beq->Ha,ble->Hc,blt->H2,eq_of_beq_eq_true->H3
namespace Go.Abs
section
variable {p:j8}{xc:XC}{h0:Nat}{al:ak Nat}{e:Env}{h:qf}{α:Type}
attribute [go_sem] List.getElem?_cons_zero List.getElem?_cons_succ List.getElem?_nil List.set_cons_zero List.set_cons_succ List.set_nil List.cons_append List.replicate_zero List.replicate_succ List.map_cons List.map_nil List.all_cons List.all_nil List.drop_zero List.drop_succ_cons List.take_zero List.take_succ_cons List.drop_nil List.take_nil Bool.and_true Bool.true_and Bool.or_false Bool.false_or Bool.and_self List.headD_cons List.foldl_cons List.foldl_nil List.flatMap_cons List.flatMap_nil
@[go_sem] theorem zlp {k n}:qk (.int k n)=Hb:=rfl
@[go_sem] theorem zk1 {b}:qk (.bool b)=Hb:=rfl
@[go_sem] theorem zlr {s}:qk (.str s)=Hb:=rfl
@[go_sem] theorem zkq {b z xs}:qk (.list b z xs)=Hb:=rfl
@[go_sem] theorem zmc {b o n}:qk (.ms b o n)=Hb:=rfl
@[go_sem] theorem zl2 {b o}:qk (.ptr b o)=Hb:=rfl
@[go_sem] theorem zl5 {b}:qk (.map b)=Hb:=rfl
@[go_sem] theorem zb0:qk .b6=Hb:=rfl
@[go_sem] theorem zbe:qk .b8=Hb:=rfl
@[go_sem] theorem zdp:qk .cu=Hb:=rfl
@[go_sem] theorem zl9 {f a b}:qk (.fn f a b)=Hb:=rfl
@[go_sem] theorem zma {z:Nat}{f:α->AVal}{l}:qk (sl z f l)=Hb:=by cases l<;>rfl
@[go_sem] theorem zit {cs}:AVal.flat (.agg cs)=cs:=rfl
@[go_sem] theorem zdr {k n}:AVal.flat (.int k n)=[.int k n]:=rfl
@[go_sem] theorem zb9 {b}:AVal.flat (.bool b)=[.bool b]:=rfl
@[go_sem] theorem ziv {s}:AVal.flat (.str s)=[.str s]:=rfl
@[go_sem] theorem j98 {b z xs}:AVal.flat (.list b z xs)=[.list b z xs]:=rfl
@[go_sem] theorem zk4 {z:Nat}{f:α->AVal}{l}:AVal.flat (sl z f l)=[sl z f l]:=by cases l<;>rfl
@[go_sem] theorem zj0 {b o}:AVal.flat (.ptr b o)=[.ptr b o]:=rfl
@[go_sem] theorem zdq {b}:AVal.flat (.map b)=[.map b]:=rfl
@[go_sem] theorem zk7 {f a b}:AVal.flat (.fn f a b)=[.fn f a b]:=rfl
@[go_sem] theorem zk2 {b o n}:AVal.flat (.ms b o n)=[.ms b o n]:=rfl
@[go_sem] theorem Va {a b}:Ha a b=decide (a=b):=by
 cases h:Ha a b with
 |true=>have:=H3 h;simp[this]
 |false=>
  have:a≠b:=fun hh=>by subst hh;simp at h
  simp[this]
@[go_sem] theorem nB {a b}:Hc a b=decide (a<=b):=by
 cases h:Hc a b with
 |true=>have:=Nat.le_of_ble_eq_true h;simp[this]
 |false=>
  have:¬a<=b:=fun hh=>by rw[Nat.ble_eq_true_of_le hh]at h;cases h
  simp[this]
@[go_sem] theorem vg {a b}:H2 a b=decide (a<b):=by
 show Hc (a+1) b=_;rw[nB];rfl
@[go_sem] theorem j93 {b}:zf h0 En b=Hb:=rfl
@[go_sem] theorem zlb:oI []=E6:=rfl
@[go_sem] theorem zdz {k l}:oI (k::l)=decide (1000<=k):=by simp only[oI,nB]
@[go_sem] theorem zdd {k b l}:Ax h0 (k::l) b=cond (decide (k<2000)) (decide (b=k-1000)&&decide (b<h0)) (cond (decide (k<4000)) (decide (b=h0+(k-2000))) (decide (b<h0))):=by
 have e:∀x y:Nat,Ha x y=decide (x=y):=fun x y=>by
  cases h:Ha x y with
  |true=>rw[H3 h];simp
  |false=>
   have:x≠y:=fun e=>by rw[e,Nat.beq_refl]at h;cases h
   simp[this]
 simp only[Ax,vg,e]
@[go_sem] theorem j8r {b l}:zf h0 (I l) b=cond (oI l) (Ax h0 l b) (decide (b<h0)||l.contains (b-h0)):=by simp only[zf,vg]
def iA (r:Option qf)(v:AVal):Option bu:=match r with
 |some h'=>I ⟨v,E6,En,h'⟩|none=>En
@[go_sem] theorem zbm {v}:iA (I h) v=I ⟨v,E6,En,h⟩:=rfl
@[go_sem] theorem zbo {h0 r es}:N8 h0 r h Hb (I es)=iA (aO h0 h r (.map es)) (.map (h0+r)):=rfl
def Vb (n:Nat)(h:qf)(b:Option aK)(x:aK):Option qf:=match b with
 |some .hole=>I (h.set n x)|_=>En
@[go_sem] theorem zax {n x}:Vb n h (I .hole) x=I (h.set n x):=rfl
@[go_sem] theorem zad {r x}:aO h0 h r x=Vb (h0+r) h h[h0+r]? x:=by
 unfold aO Vb;rfl
def cm (b:Bool)(r:Option bu):Option bu:=match b with
 |true=>r|false=>En
@[go_sem] theorem zh9 {r}:cm Hb r=r:=rfl
@[go_sem] theorem zkx {r z}:qe p xc h0 al e h (.alloc r z)=cm (z.all qk) (iA (aO h0 h r (.cells (cellsOf z))) (.ptr (h0+r) 0)):=by
 simp only[qe,qn,cm]
 cases z.all qk with
 |false=>rfl|true=>simp only[cond_true,iA];cases aO h0 h r (.cells (cellsOf z))<;>rfl
def Vc (n:Nat)(h:qf)(x:Option AVal):Option bu:=match x with
 |some v=>cm (Ha v.flat.length n&&v.flat.all qk) (I ⟨.aq v,E6,En,h⟩)|none=>En
@[go_sem] theorem j68 {n v}:Vc n h (I v)=cm (Ha v.flat.length n&&v.flat.all qk) (I ⟨.aq v,E6,En,h⟩):=rfl
@[go_sem] theorem zlq {n x}:qe p xc h0 al e h (.ly n x)=Vc n h (qh e x):=by
 simp only[qe,ql,Vc]
 cases qh e x with
 |none=>rfl
 |some v=>
  simp only[cm];cases (Ha v.flat.length n&&v.flat.all qk)<;>rfl
def Vd (h0 r n:Nat)(h:qf)(x:Option AVal):Option bu:=match x with
 |some v=>cm (Ha v.flat.length n&&v.flat.all qk) (iA (aO h0 h r (.cells (cellsOf v.flat))) (.ptr (h0+r) 0))|none=>En
@[go_sem] theorem zbn {r n v}:Vd h0 r n h (I v)=cm (Ha v.flat.length n&&v.flat.all qk) (iA (aO h0 h r (.cells (cellsOf v.flat))) (.ptr (h0+r) 0)):=rfl
@[go_sem] theorem zmd {r n x}:qe p xc h0 al e h (.box r n x)=Vd h0 r n h (qh e x):=by
 simp only[qe,qn,Vd]
 cases qh e x with
 |none=>rfl
 |some v=>
  simp only[cm,iA]
  cases (Ha v.flat.length n&&v.flat.all qk)with
  |false=>rfl|true=>simp only[cond_true];cases aO h0 h r (.cells (cellsOf v.flat))<;>rfl
@[go_sem] theorem zlh {r}:qe p xc h0 al e h (.eO r)=iA (aO h0 h r (.map [])) (.map (h0+r)):=by
 simp only[qe,qn,iA];cases aO h0 h r (.map [])<;>rfl
@[go_sem] theorem j3x:cellsOf []=[]:=rfl
@[go_sem] theorem jw6 {v vs}:cellsOf (v::vs)=(v,E6)::cellsOf vs:=rfl
def vh (agg:Bool)(h:qf)(r:Option AVal):Option bu:=match r with
 |some v=>bif Bool.xor agg v.isAgg then En else val h (.aq v)|none=>En
def F0 (agg:Bool)(off n:Nat)(h:qf)(x:Option AVal):Option bu:=match x with
 |some (.ptr b o)=>val h (.ptr b (o+off))|some (.aq (.agg cs))=>vh agg h (part agg cs off n)|some (.dT b bN o)=>val h (.dT b bN (o+off))|_=>En
@[go_sem] theorem jvp {agg off n b v o}:F0 agg off n h (I (.dT b v o))=I ⟨.dT b v (o+off),E6,En,h⟩:=rfl
@[go_sem] theorem jvl {agg off n b o}:F0 agg off n h (I (.ptr b o))=I ⟨.ptr b (o+off),E6,En,h⟩:=rfl
@[go_sem] theorem jso {agg off n cs}:F0 agg off n h (I (.aq (.agg cs)))=vh agg h (part agg cs off n):=rfl
@[go_sem] theorem j35 {agg off n x}:qe p xc h0 al e h (.fieldAddr agg off n x)=F0 agg off n h (qh e x):=by
 simp only[qe,ql,F0]
 cases qh e x with
 |none=>rfl
 |some v=>cases v with
  |aq v=>cases v<;>rfl|_=>rfl
@[go_sem] theorem j91 {k n}:vh E6 h (I (.int k n))=I ⟨.aq (.int k n),E6,En,h⟩:=rfl
@[go_sem] theorem j95 {s}:vh E6 h (I (.str s))=I ⟨.aq (.str s),E6,En,h⟩:=rfl
@[go_sem] theorem j40 {b}:vh E6 h (I (.bool b))=I ⟨.aq (.bool b),E6,En,h⟩:=rfl
@[go_sem] theorem zg9 {z:Nat}{f:α->AVal}{l}:vh E6 h (I (sl z f l))=I ⟨.aq (sl z f l),E6,En,h⟩:=by cases l<;>rfl
@[go_sem] theorem zbh {cs}:vh Hb h (I (.agg cs))=I ⟨.aq (.agg cs),E6,En,h⟩:=rfl
@[go_sem] theorem zht {cs off n}:part E6 cs off n=cs[off]?:=rfl
def Ve (b:Bool)(cs:List AVal)(off n:Nat):Option AVal:=match b with
 |true=>I (.agg ((cs.drop off).take n))|false=>En
@[go_sem] theorem j6o {cs off n}:Ve Hb cs off n=I (.agg ((cs.drop off).take n)):=rfl
@[go_sem] theorem zc1 {cs off n}:part Hb cs off n=Ve (decide (off+n<=cs.length)) cs off n:=by
 simp only[part,Ve,cond_true,nB];cases decide (off+n<=cs.length)<;>rfl
@[go_sem] theorem zjo {z:Nat}{f:α->AVal}{l}:gT h0 al E6 1 h (I (.aq (sl z f l)))=I ⟨sl z f l,E6,En,h⟩:=by cases l<;>rfl
def Vf (h:qf)(cs:List AVal)(b:Bool):Option bu:=match b with
 |true=>I ⟨.agg cs,E6,En,h⟩|false=>En
@[go_sem] theorem zbk {cs}:Vf h cs Hb=I ⟨.agg cs,E6,En,h⟩:=rfl
@[go_sem] theorem j5c {n cs}:gT h0 al Hb n h (I (.aq (.agg cs)))=Vf h cs (decide (cs.length=n)):=by
 unfold Vf;by_cases hn:cs.length=n
 .rw[jh4 hn];simp[hn]
 .simp[gT,AVal.isAgg,AVal.flat,hn,Va]
def Jr (agg:Bool)(h:qf)(vs:ak AVal):Option bu:=match vs with
 |some vs=>bif agg then val h (.agg vs)else(match vs with
  | [v]=>val h v
  |_=>En)
 |none=>En
@[go_sem] theorem zfc {vs}:Jr Hb h (I vs)=I ⟨.agg vs,E6,En,h⟩:=rfl
@[go_sem] theorem zg0 {v}:Jr E6 h (I [v])=I ⟨v,E6,En,h⟩:=rfl
def Vg (b:Option aK):Option (List (AVal×Bool)):=match b with
 |some (.cells cs)=>I cs|_=>En
@[go_sem] theorem j31 {cs}:Vg (I (.cells cs))=I cs:=rfl
@[go_sem] theorem jap {b}:qw h b=Vg h[b]?:=by unfold qw Vg;rfl
def Vh (b:Bool)(cs:List (AVal×Bool))(off n:Nat):ak AVal:=match b with
 |true=>I (((cs.drop off).take n).map (·.1))|false=>En
@[go_sem] theorem zj1 {cs off n}:Vh Hb cs off n=I (((cs.drop off).take n).map (·.1)):=rfl
@[go_sem] theorem jwy {cs off n}:zt cs off n=Vh (decide (off+n<=cs.length)) cs off n:=by
 simp only[zt,Vh,nB];cases decide (off+n<=cs.length)<;>rfl
def Vi (agg:Bool)(o n:Nat)(h:qf)(cs:Option (List (AVal×Bool))):Option bu:=match cs with
 |some cs=>Jr agg h (zt cs o n)|none=>En
@[go_sem] theorem zak {agg o n cs}:Vi agg o n h (I cs)=Jr agg h (zt cs o n):=rfl
@[go_sem] theorem j94 {agg n b o}:gT h0 al agg n h (I (.ptr b o))=cm (zf h0 al b) (Vi agg o n h (qw h b)):=by
 simp only[gT,cm,Vi,Jr]
 cases zf h0 al b with
 |false=>rfl
 |true=>
  simp only[cond_true]
  cases qw h b with
  |none=>rfl|some cs=>simp only[];cases zt cs o n<;>rfl
def N9 (r:Option qf)(v:AVal)(w:Bool):Option bu:=match r with
 |some h'=>I ⟨v,w,En,h'⟩|none=>En
@[go_sem] theorem j8s {v w}:N9 (I h) v w=I ⟨v,w,En,h⟩:=rfl
def Oa (h:qf)(b o:Nat)(cs:List (AVal×Bool))(x:Option (AVal×Bool)):Option bu:=match x with
 |some (v,w)=>N9 (j0 h b (.cells (cs.set o (v,E6)))) v w|none=>En
@[go_sem] theorem j73 {b o cs v w}:Oa h b o cs (I (v,w))=N9 (j0 h b (.cells (cs.set o (v,E6)))) v w:=rfl
def Ob (h:qf)(b o:Nat)(cs:Option (List (AVal×Bool))):Option bu:=match cs with
 |some cs=>Oa h b o cs cs[o]?|none=>En
@[go_sem] theorem j6h {b o cs}:Ob h b o (I cs)=Oa h b o cs cs[o]?:=rfl
def Vj (h0:Nat)(al:ak Nat)(off:Option Nat)(h:qf)(x:Option AVal):Option bu:=match x with
 |some (.ptr b o)=>cm (zf h0 al b&&xH off o) (Ob h b o (qw h b))|_=>En
@[go_sem] theorem jv0 {off b o}:Vj h0 al off h (I (.ptr b o))=cm (zf h0 al b&&xH off o) (Ob h b o (qw h b)):=rfl
@[go_sem] theorem j7k {o}:xH En o=Hb:=rfl
@[go_sem] theorem j83 {off x}:qe p xc h0 al e h (.cx off x)=Vj h0 al off h (qh e x):=by
 simp only[qe,qn,Vj]
 cases qh e x with
 |none=>rfl
 |some v=>cases v with
  |ptr b o=>
   simp only[cm,Ob,Oa,N9]
   cases (zf h0 al b&&xH off o)with
   |false=>rfl
   |true=>
    simp only[cond_true]
    cases qw h b with
    |none=>rfl
    |some cs=>
     simp only[]
     cases cs[o]? with
     |none=>rfl
     |some c=>
      obtain⟨v,w⟩:=c;simp only[];cases j0 h b (.cells (cs.set o (v,E6)))<;>rfl
  |_=>rfl
def Vk (b:Bool)(n:Nat)(x:aK)(h:qf):Option qf:=match b with
 |true=>I (h.set n x)|false=>En
@[go_sem] theorem zao {n x}:Vk Hb n x h=I (h.set n x):=rfl
@[go_sem] theorem zby {b x}:j0 h b x=Vk (decide (b<h.length)) b x h:=by
 simp only[j0,Vk,vg];cases decide (b<h.length)<;>rfl
def Vl (b:Bool)(cs:List (AVal×Bool))(off:Nat)(vs:List AVal):Option (List (AVal×Bool)):=match b with
 |true=>I (cs.take off++vs.map (·,E6)++cs.drop (off+vs.length))|false=>En
@[go_sem] theorem zh5 {cs off vs}:Vl Hb cs off vs=I (cs.take off++vs.map (·,E6)++cs.drop (off+vs.length)):=rfl
@[go_sem] theorem jvq {cs off vs}:jw cs off vs=Vl (decide (off+vs.length<=cs.length)&&vs.all qk) cs off vs:=by
 simp only[jw,Vl,nB];cases (decide (off+vs.length<=cs.length)&&vs.all qk)<;>rfl
def Oc (t:Nat)(x:Option (AVal×Bool)):Option Nat:=match x with
 |some (_,Hb)=>I t|_=>En
@[go_sem] theorem zbb {t v}:Oc t (I (v,Hb))=I t:=rfl
@[go_sem] theorem j7p {t v}:Oc t (I (v,E6))=En:=rfl
@[go_sem] theorem zbp {t}:z5 e (.tmp t)=Oc t (jn t e):=by
 simp only[z5,Oc];rfl
@[go_sem] theorem j4g {v}:z5 e (.const v)=En:=rfl
def Od (h:qf)(b:Nat)(cs:Option (List (AVal×Bool))):Option bu:=match cs with
 |some eF=>iA (j0 h b (.cells eF)) .undef|none=>En
@[go_sem] theorem jzj {b cs}:Od h b (I cs)=iA (j0 h b (.cells cs)) .undef:=rfl
def Oe (t:Nat)(r:Option qf):Option bu:=match r with
 |some h'=>I ⟨.undef,E6,I t,h'⟩|none=>En
@[go_sem] theorem j4z {t}:Oe t (I h)=I ⟨.undef,E6,I t,h⟩:=rfl
def Js (n:Nat)(h:qf)(b o:Nat)(v:AVal)(own:Option Nat)(cs:Option (List (AVal×Bool))):Option bu:=match cs,own with
 |some cs,I t=>cm (Ha n 1&&v.cP&&H2 o cs.length) (Oe t (j0 h b (.cells (cs.set o (v,Hb)))))|some cs,En=>cm (Ha v.flat.length n) (Od h b (jw cs o v.flat))|none,_=>En
@[go_sem] theorem j64 {n b o t v cs}:Js n h b o v (I t) (I cs)=cm (Ha n 1&&v.cP&&H2 o cs.length) (Oe t (j0 h b (.cells (cs.set o (v,Hb))))):=rfl
@[go_sem] theorem jyc {n b o v cs}:Js n h b o v En (I cs)=cm (Ha v.flat.length n) (Od h b (jw cs o v.flat)):=rfl
def Vm (h0:Nat)(al:ak Nat)(n:Nat)(h:qf)(own:Option Nat)(a x:Option AVal):Option bu:=match a,x with
 |some (.ptr b o),I v=>cm (zf h0 al b) (Js n h b o v own (qw h b))|_,_=>En
@[go_sem] theorem j71 {n b o own v}:Vm h0 al n h own (I (.ptr b o)) (I v)=cm (zf h0 al b) (Js n h b o v own (qw h b)):=rfl
@[go_sem] theorem zle {n a x}:qe p xc h0 al e h (.store n a x)=Vm h0 al n h (z5 e x) (qh e a) (qh e x):=by
 simp only[qe,qn,Vm]
 cases qh e a with
 |none=>rfl
 |some va=>
  cases va with
  |ptr b o=>
   cases qh e x with
   |none=>rfl
   |some v=>
    simp only[cm]
    cases zf h0 al b with
    |false=>rfl
    |true=>
     simp only[cond_true]
     cases qw h b with
     |none=>rfl
     |some cs=>
      simp only[Js]
      cases z5 e x with
      |none=>
       simp only[cm,Od,iA]
       cases Ha v.flat.length n with
       |false=>rfl
       |true=>
        simp only[cond_true]
        cases jw cs o v.flat with
        |none=>rfl|some eF=>simp only[];cases j0 h b (.cells eF)<;>rfl
      |some t=>
       simp only[cm,Oe]
       cases (Ha n 1&&v.cP&&H2 o cs.length)with
       |false=>rfl|true=>simp only[cond_true];cases j0 h b (.cells (cs.set o (v,Hb)))<;>rfl
  |_=>rfl
@[go_sem] theorem j3v {b z xs}:AVal.cP (.list b z xs)=Hb:=rfl
@[go_sem] theorem zaw {z:Nat}{f:α->AVal}{l}:AVal.cP (sl z f l)=Hb:=by cases l<;>rfl
def Og (b:Bool)(off:Nat)(vs:List AVal)(l:Option (List (Nat×List AVal))):Option (List (Nat×List AVal)):=match b,l with
 |true,I r=>I ((off,vs)::r)|_,_=>En
@[go_sem] theorem j4j {off vs r}:Og Hb off vs (I r)=I ((off,vs)::r):=rfl
def Vn (x:Option AVal)(off n:Nat)(l:Option (List (Nat×List AVal))):Option (List (Nat×List AVal)):=match x with
 |some v=>Og (Ha v.flat.length n&&v.flat.all qk) off v.flat l|none=>En
@[go_sem] theorem j32 {v off n l}:Vn (I v) off n l=Og (Ha v.flat.length n&&v.flat.all qk) off v.flat l:=rfl
@[go_sem] theorem jv1:kz e []=I []:=rfl
@[go_sem] theorem jrz {off n x l}:kz e ((off,n,x)::l)=Vn (qh e x) off n (kz e l):=by
 simp only[kz,Vn,Og]
 cases qh e x with
 |none=>rfl|some v=>simp only[];cases (Ha v.flat.length n&&v.flat.all qk)<;>cases kz e l<;>rfl
def li (h:qf)(zero:List AVal)(ps:Option (List (Nat×List AVal))):Option bu:=match ps with
 |some ps=>ph h (kM zero ps)|none=>En
where ph (h:qf) (r:ak AVal):Option bu:=match r with
 |some cs=>I ⟨.agg cs,E6,En,h⟩|none=>En
@[go_sem] theorem j6w {zero ps}:li h zero (I ps)=li.ph h (kM zero ps):=rfl
@[go_sem] theorem j8x {cs}:li.ph h (I cs)=I ⟨.agg cs,E6,En,h⟩:=rfl
@[go_sem] theorem zk3 {zero ps}:qe p xc h0 al e h (.build zero ps)=li h zero (kz e ps):=by
 simp only[qe,ql,li,li.ph]
 cases kz e ps with
 |none=>rfl|some ps=>simp only[];cases kM zero ps<;>rfl
@[go_sem] theorem zb1 {cs}:kM cs []=I cs:=rfl
def Vo (b:Bool)(cs:List AVal)(off:Nat)(vs:List AVal)(l:List (Nat×List AVal)):ak AVal:=match b with
 |true=>kM (cs.take off++vs++cs.drop (off+vs.length)) l|false=>En
@[go_sem] theorem j7i {cs off vs l}:Vo Hb cs off vs l=kM (cs.take off++vs++cs.drop (off+vs.length)) l:=rfl
@[go_sem] theorem j7g {cs off vs l}:kM cs ((off,vs)::l)=Vo (decide (off+vs.length<=cs.length)) cs off vs l:=by
 simp only[kM,Vo,nB];cases decide (off+vs.length<=cs.length)<;>rfl
def gU (x:Option AVal)(i sz:Nat)(l:Option (List (Nat×AVal))):Option (List (Nat×AVal)):=match x with
 |some v=>lM (Ha v.flat.length sz&&v.flat.all qk) i v l|none=>En
where lM (b:Bool) (i:Nat) (v:AVal) (l:Option (List (Nat×AVal))):Option (List (Nat×AVal)):=match b,l with
 |true,I r=>I ((i,v)::r)|_,_=>En
@[go_sem] theorem j3s {v i sz l}:gU (I v) i sz l=gU.lM (Ha v.flat.length sz&&v.flat.all qk) i v l:=rfl
@[go_sem] theorem j4k {v i r}:gU.lM Hb i v (I r)=I ((i,v)::r):=rfl
@[go_sem] theorem jvm {sz}:yi e sz []=I []:=rfl
@[go_sem] theorem jvj {sz i x l}:yi e sz ((i,x)::l)=gU (qh e x) i sz (yi e sz l):=by
 simp only[yi,gU,gU.lM]
 cases qh e x with
 |none=>rfl|some v=>simp only[];cases (Ha v.flat.length sz&&v.flat.all qk)<;>cases yi e sz l<;>rfl
@[go_sem] theorem zb8 {xs}:l6 xs []=I xs:=rfl
def Vp (b:Bool)(xs:List AVal)(i:Nat)(v:AVal)(l:List (Nat×AVal)):ak AVal:=match b with
 |true=>l6 (xs.set i v) l|false=>En
@[go_sem] theorem j4a {xs i v l}:Vp Hb xs i v l=l6 (xs.set i v) l:=rfl
@[go_sem] theorem j8e {xs i v l}:l6 xs ((i,v)::l)=Vp (decide (i<xs.length)) xs i v l:=by
 simp only[l6,Vp,vg];cases decide (i<xs.length)<;>rfl
def gV (sz:Nat)(h:qf)(xs:List AVal)(ps:Option (List (Nat×AVal))):Option bu:=match ps with
 |some ps=>lN sz h (l6 xs ps)|none=>En
where lN (sz:Nat) (h:qf) (r:ak AVal):Option bu:=match r with
 |some xs=>I ⟨.list E6 sz xs,Hb,En,h⟩|none=>En
@[go_sem] theorem j37 {sz xs ps}:gV sz h xs (I ps)=gV.lN sz h (l6 xs ps):=rfl
@[go_sem] theorem j33 {sz xs}:gV.lN sz h (I xs)=I ⟨.list E6 sz xs,Hb,En,h⟩:=rfl
@[go_sem] theorem jz2 {sz len zero ps}:qe p xc h0 al e h (.buildSlice sz len zero ps)=gV sz h (List.replicate len (bif Ha sz 1 then zero.headD .undef else .agg zero)) (yi e sz ps):=by
 simp only[qe,ql,gV,gV.lN]
 cases yi e sz ps with
 |none=>rfl|some ps=>simp only[];cases l6 (List.replicate len (bif Ha sz 1 then zero.headD .undef else .agg zero)) ps<;>rfl
def bR (sz bytes:Nat)(h:qf)(own:Option Nat)(x y:Option AVal):Option bu:=match x,y with
 |some (.list n df xs),I vy=>cm (n||own.isSome) (iB sz bytes h own n df xs (yg sz vy))|_,_=>En
where iB (sz bytes:Nat) (h:qf) (own:Option Nat) (n:Bool) (df:Nat) (xs:List AVal) (ys:ak AVal):Option bu:=match ys with
 |some ys=>cm ((Ha sz df||(xs.isEmpty&&n))&&Hc (xs.length+ys.length) 1073741824&&Hc bytes 4096&&H2 0 sz) (I ⟨uk n sz xs ys,Hb,own,h⟩)|none=>En
@[go_sem] theorem j9u {sz bytes own n df xs vy}:bR sz bytes h own (I (.list n df xs)) (I vy)=cm (n||own.isSome) (bR.iB sz bytes h own n df xs (yg sz vy)):=rfl
@[go_sem] theorem zbs {sz bytes own n df xs ys}:bR.iB sz bytes h own n df xs (I ys)=cm ((Ha sz df||(xs.isEmpty&&n))&&Hc (xs.length+ys.length) 1073741824&&Hc bytes 4096&&H2 0 sz) (I ⟨uk n sz xs ys,Hb,own,h⟩):=rfl
@[go_sem] theorem zct {sz bytes x y}:qe p xc h0 al e h (.append En sz bytes x y)=bR sz bytes h (z5 e x) (qh e x) (qh e y):=by
 simp only[qe,ql,bR,bR.iB]
 cases qh e x with
 |none=>rfl
 |some vx=>
  cases vx with
  |list n df xs=>
   cases qh e y with
   |none=>rfl
   |some vy=>
    simp only[cm]
    cases (n||(z5 e x).isSome)with
    |false=>rfl
    |true=>
     simp only[cond_true]
     cases yg sz vy with
     |none=>rfl|some ys=>simp only[];cases ((Ha sz df||(xs.isEmpty&&n))&&Hc (xs.length+ys.length) 1073741824&&Hc bytes 4096&&H2 0 sz)<;>rfl
  |_=>cases qh e y<;>rfl
@[go_sem] theorem Vq {z:Nat}{f:α->AVal}{l}:yg z (sl z f l)=I ((l.getD []).map f):=by
 cases l<;>simp[yg,sl]
@[go_sem] theorem j4n {z xs ys}:uk E6 z xs ys=.list E6 z (xs++ys):=rfl
attribute [go_sem] Option.isSome_some Option.isSome_none Bool.or_true Bool.true_or List.isEmpty_nil List.isEmpty_cons Bool.and_false Bool.false_and
def Vr (h:qf)(i:Nat)(x:Option AVal):Option bu:=match x with
 |some (.aJ vs)=>gK h vs[i]?|_=>En
@[go_sem] theorem j0x {i vs}:Vr h i (I (.aJ vs))=gK h vs[i]?:=rfl
@[go_sem] theorem zbd {i x}:qe p xc h0 al e h (.extract x i)=Vr h i (qh e x):=by
 simp only[qe,ql,Vr]
 cases qh e x with
 |none=>rfl|some v=>cases v<;>rfl
def Vs (op:UnOp)(h:qf)(x:Option AVal):Option bu:=match x with
 |some v=>gK h (xG op v)|none=>En
@[go_sem] theorem zh1 {op v}:Vs op h (I v)=gK h (xG op v):=rfl
@[go_sem] theorem zmt {op x}:qe p xc h0 al e h (.un op x)=Vs op h (qh e x):=by
 simp only[qe,ql,Vs];cases qh e x<;>rfl
@[go_sem] theorem zlo {b}:xG .not (.bool b)=I (.bool (!b)):=rfl
@[go_sem] theorem zlt {k n}:xG .neg (.int k n)=I (.int k (qd k (0-n))):=rfl
def Vt (neq:Bool)(h:qf)(x y:Option AVal):Option bu:=match x,y with
 |some (.bool a),I (.bool b)=>val h (.bool (bif neq then !(a == b)else a == b))|_,_=>En
@[go_sem] theorem j90 {neq a b}:Vt neq h (I (.bool a)) (I (.bool b))=I ⟨.bool (bif neq then !(a == b)else a == b),E6,En,h⟩:=rfl
@[go_sem] theorem zmk {neq x y}:qe p xc h0 al e h (.beq neq x y)=Vt neq h (qh e x) (qh e y):=by
 simp only[qe,ql,Vt]
 cases qh e x with
 |none=>rfl|some v=>cases v<;>cases qh e y<;>rfl
def Vu (f:Fn)(h:qf)(a b:ak AVal):Option bu:=match a,b with
 |some a,I b=>val h (.fn f a b)|_,_=>En
@[go_sem] theorem j2d {f a b}:Vu f h (I a) (I b)=I ⟨.fn f a b,E6,En,h⟩:=rfl
@[go_sem] theorem zcm {f a b}:qe p xc h0 al e h (.eW f a b)=Vu f h (gJ e a) (gJ e b):=by
 simp only[qe,ql,Vu];cases gJ e a<;>cases gJ e b<;>rfl
def Vv (f:AVal->AVal->Option AVal)(h:qf)(l:ak AVal):Option bu:=match l with
 |some (v::vs)=>gK h (oH f v vs)|_=>En
@[go_sem] theorem zhq {f v vs}:Vv f h (I (v::vs))=gK h (oH f v vs):=rfl
@[go_sem] theorem zms {l}:qe p xc h0 al e h (.mx l)=Vv max2 h (gJ e l):=by
 simp only[qe,ql,Vv]
 cases gJ e l with
 |none=>rfl|some vs=>cases vs<;>rfl
def Vw (f:AVal->AVal->Option AVal)(x:Option AVal)(l:List AVal):Option AVal:=match x with
 |some z=>oH f z l|none=>En
@[go_sem] theorem j7l {f x l}:Vw f (I x) l=oH f x l:=rfl
@[go_sem] theorem zbz {f x}:oH f x []=I x:=rfl
@[go_sem] theorem j7r {f x y l}:oH f x (y::l)=Vw f (f x y) l:=by
 simp only[oH,Vw];rfl
@[go_sem] theorem zgd {k x y}:max2 (.int k x) (.int k y)=I (.int k (max x y)):=by
 simp only[max2,decide_true,cond_true]
 congr 2
 by_cases h:y > x
 .rw[if_pos h];omega
 .rw[if_neg h];omega
def Jt (k:Nat)(neq:Bool)(h:qf)(x:Option AVal):Option bu:=match k,x with
  |0,I (.list n _ _)=>val h (.bool (bif neq then !n else n))|0,I (.ms ..)=>val h (.bool neq)|1,I .b6=>val h (.bool (!neq))|1,I (.ptr ..)=>val h (.bool neq)|1,I (.aq ..)=>val h (.bool neq)|2,I .b8=>val h (.bool (!neq))|2,I (.map ..)=>val h (.bool neq)|3,I .cu=>val h (.bool (!neq))|3,I (.fn ..)=>val h (.bool neq)|_,_=>En
@[go_sem] theorem zkt {k neq x}:qe p xc h0 al e h (.fD k neq x)=Jt k neq h (qh e x):=rfl
@[go_sem] theorem j6x {neq n z xs}:Jt 0 neq h (I (.list n z xs))=I ⟨.bool (bif neq then !n else n),E6,En,h⟩:=rfl
@[go_sem] theorem zaj {n k i}:below n (.int k i)=Hb:=rfl
@[go_sem] theorem j6p {n b}:below n (.bool b)=Hb:=rfl
@[go_sem] theorem zae {n s}:below n (.str s)=Hb:=rfl
@[go_sem] theorem j8d {n b z xs}:below n (.list b z xs)=qo n xs:=by simp only[below]
@[go_sem] theorem za7 {n xs}:below n (.agg xs)=qo n xs:=by simp only[below]
@[go_sem] theorem zar {n xs}:below n (.aJ xs)=qo n xs:=by simp only[below]
@[go_sem] theorem j99 {n b o}:below n (.ptr b o)=decide (b<n):=by simp only[below,vg]
@[go_sem] theorem zbg {n b}:below n (.map b)=decide (b<n):=by simp only[below,vg]
@[go_sem] theorem zhx {n k a b}:below n (.fn (.func k) a b)=(qo n a&&qo n b):=by simp only[below]
@[go_sem] theorem j62 {n}:qo n []=Hb:=by simp only[qo]
@[go_sem] theorem j3q {n x xs}:qo n (x::xs)=(below n x&&qo n xs):=by simp only[qo]
@[go_sem] theorem j8l {n i}:below n (jt i)=Hb:=rfl
@[go_sem] theorem j9s {n z l}:below n (sl z jt l)=Hb:=vf fun _=>rfl
@[go_sem] theorem zky {k i}:jL h (.int k i)=I (.int k i):=rfl
@[go_sem] theorem zeg {b}:jL h (.bool b)=I (.bool b):=rfl
@[go_sem] theorem zlc {s}:jL h (.str s)=I (.str s):=rfl
@[go_sem] theorem zgl {b z xs}:jL h (.list b z xs)=I (.list b z xs):=rfl
@[go_sem] theorem zln {z:Nat}{f:α->AVal}{l}:jL h (sl z f l)=I (sl z f l):=by cases l<;>rfl
@[go_sem] theorem zgc:mG h []=I []:=rfl
@[go_sem] theorem zac {v vs}:mG h (v::vs)=tc (jL h v) (mG h vs):=by
 simp only[mG,tc]
 cases jL h v with
 |none=>rfl|some x=>cases mG h vs<;>rfl
def Oh (l:ak AVal):Option AVal:=match l with
 |some xs=>I (.agg xs)|none=>En
@[go_sem] theorem j9v {xs}:Oh (I xs)=I (.agg xs):=rfl
@[go_sem] theorem Vx {cs}:aX h (.agg cs)=Oh (mG h cs):=by
 simp only[aX,Oh];cases mG h cs<;>rfl
@[go_sem] theorem zf4 {k i}:aX h (.int k i)=I (.int k i):=rfl
@[go_sem] theorem zbt {b}:aX h (.bool b)=I (.bool b):=rfl
@[go_sem] theorem zf1 {s}:aX h (.str s)=I (.str s):=rfl
@[go_sem] theorem zca {b z xs}:aX h (.list b z xs)=I (.list b z xs):=rfl
def Vy (l:ak AVal):Option AVal:=match l with
 |some xs=>I (.aJ xs)|none=>En
@[go_sem] theorem zan {xs}:Vy (I xs)=I (.aJ xs):=rfl
@[go_sem] theorem zgp {cs}:aX h (.aJ cs)=Vy (aX.bO h cs):=by
 simp only[aX,Vy];cases aX.bO h cs<;>rfl
@[go_sem] theorem ze6:aX.bO h []=I []:=rfl
@[go_sem] theorem zfj {cs vs}:aX.bO h (.agg cs::vs)=tc (Oh (mG h cs)) (aX.bO h vs):=by
 rw[aX.bO]
 cases mG h cs with
 |none=>rfl|some x=>cases aX.bO h vs<;>rfl
theorem Oi {v vs}(hv:v.isAgg=E6):aX.bO h (v::vs)=tc (jL h v) (aX.bO h vs):=by
 have:∀cs,v≠.agg cs:=fun cs hc=>by rw[hc]at hv;cases hv
 rw[aX.bO]
 .cases jL h v with
  |none=>rfl|some x=>cases aX.bO h vs<;>rfl
 .exact this
@[go_sem] theorem ze7 {k i vs}:aX.bO h (.int k i::vs)=tc (I (.int k i)) (aX.bO h vs):=Oi rfl
@[go_sem] theorem zay {b vs}:aX.bO h (.bool b::vs)=tc (I (.bool b)) (aX.bO h vs):=Oi rfl
@[go_sem] theorem zjr {s vs}:aX.bO h (.str s::vs)=tc (I (.str s)) (aX.bO h vs):=Oi rfl
@[go_sem] theorem zbx {b z xs vs}:aX.bO h (.list b z xs::vs)=tc (I (.list b z xs)) (aX.bO h vs):=Oi rfl
attribute [go_sem] List.contains_cons List.contains_nil
@[go_sem] theorem zla {a b:Nat}:(a == b)=decide (a=b):=by
 by_cases mI:a=b<;>simp[mI]
def Ju (agg:Bool)(c:Option (AVal×Bool))(vs:ak AVal):Option (AVal×Bool):=match vs,agg with
 |some vs,Hb=>I (.agg vs,E6)|some _,E6=>c|none,_=>En
@[go_sem] theorem zbw {c vs}:Ju Hb c (I vs)=I (.agg vs,E6):=rfl
@[go_sem] theorem za6 {c vs}:Ju E6 c (I vs)=c:=rfl
def Oj (agg:Bool)(o n:Nat)(cs:Option (List (AVal×Bool))):Option (AVal×Bool):=match cs with
 |some cs=>Ju agg cs[o]? (zt cs o n)|none=>En
@[go_sem] theorem j66 {agg o n cs}:Oj agg o n (I cs)=Ju agg cs[o]? (zt cs o n):=rfl
def Vz (agg:Bool)(n:Nat)(h:qf)(x:Option (AVal×Bool)):Option (AVal×Bool):=match x with
 |some (.ptr b o,_)=>Oj agg o n (qw h b)|_=>En
@[go_sem] theorem j9z {agg n b o w}:Vz agg n h (I (.ptr b o,w))=Oj agg o n (qw h b):=rfl
@[go_sem] theorem jvx {t n agg}:ul ⟨e,h⟩ (.cell t agg n)=Vz agg n h (jn t e):=by
 simp only[ul,Vz]
 cases jn t e with
 |none=>rfl
 |some x=>
  obtain⟨v,w⟩:=x
  cases v with
  |ptr b o=>
   simp only[Oj]
   cases qw h b with
   |none=>rfl
   |some cs=>
    simp only[Ju]
    cases zt cs o n with
    |none=>rfl
    |some vs=>cases agg with
     |true=>rfl|false=>simp only[cond_false];cases cs[o]?<;>rfl
  |_=>rfl
theorem jr {k args v v' o}(hp:p.cB k=En)(hc:ai p xc k args []=I (v,o,h))(hz:aX h v=I v')(hv:below 0 v'=Hb):ae p xc k args=I (v',o&&v.cP):=by
 unfold ae;rw[hp];simp only[hc,hz,l7,hv,cond_true]
end
end Go.Abs
