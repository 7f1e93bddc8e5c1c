/- Equations of the executor, second part. -/
import Derived.Test.YtlhfdilpecnjeaaGreatDoorAbsI
set_option linter.all false
open Option renaming some->I,none->En
open Bool renaming false->Ga,true->Gd
open Nat renaming beq->Gb,ble->Ha,blt->Hb,eq_of_beq_eq_true->Hc
namespace Go.Abs
section
variable {p:j8}{xc:XC}{h0:Nat}{al:ak Nat}{e:Env}{h:qh}{α:Type}
attribute [go_sem] List.getElem?_cons_zero List.getElem?_cons_succ List.getElem?_nil List.set_cons_zero List.set_cons_succ List.set_nil List.cons_append List.replicate_zero List.replicate_succ List.map_cons List.map_nil List.all_cons List.all_nil List.drop_zero List.drop_succ_cons List.take_zero List.take_succ_cons List.drop_nil List.take_nil Bool.and_true Bool.true_and Bool.or_false Bool.false_or Bool.and_self List.headD_cons List.foldl_cons List.foldl_nil List.flatMap_cons List.flatMap_nil
theorem zmk {k n}:qk (.int k n)=Gd:=rfl
theorem zlt {b}:qk (.bool b)=Gd:=rfl
theorem zmx {s}:qk (.str s)=Gd:=rfl
theorem zlh {b z xs}:qk (.list b z xs)=Gd:=rfl
theorem znh {b o n}:qk (.ms b o n)=Gd:=rfl
theorem zmc {b o}:qk (.ptr b o)=Gd:=rfl
theorem zma {b}:qk (.map b)=Gd:=rfl
theorem zch:qk .bQ=Gd:=rfl
theorem zbw:qk .cg=Gd:=rfl
theorem zgz:qk .cx=Gd:=rfl
theorem zm1 {f a b}:qk (.fn f a b)=Gd:=rfl
theorem znc {z:Nat}{f:α->AVal}{l}:qk (sl z f l)=Gd:=by cases l<;>rfl
theorem zjh {cs}:AVal.flat (.agg cs)=cs:=rfl
theorem zg3 {k n}:AVal.flat (.int k n)=[.int k n]:=rfl
theorem zap {b}:AVal.flat (.bool b)=[.bool b]:=rfl
theorem zi9 {s}:AVal.flat (.str s)=[.str s]:=rfl
theorem zaw {b z xs}:AVal.flat (.list b z xs)=[.list b z xs]:=rfl
theorem zl0 {z:Nat}{f:α->AVal}{l}:AVal.flat (sl z f l)=[sl z f l]:=by cases l<;>rfl
theorem ziw {b o}:AVal.flat (.ptr b o)=[.ptr b o]:=rfl
theorem zle {b}:AVal.flat (.map b)=[.map b]:=rfl
theorem zlj {f a b}:AVal.flat (.fn f a b)=[.fn f a b]:=rfl
theorem zll {b o n}:AVal.flat (.ms b o n)=[.ms b o n]:=rfl
theorem OU {a b}:Gb a b=decide (a=b):=by
 cases h:Gb a b with
 |true=>have:=Hc h;simp[this]
 |false=>
  have:a≠b:=fun hh=>by subst hh;simp at h
  simp[this]
theorem nY {a b}:Ha a b=decide (a<=b):=by
 cases h:Ha a b with
 |true=>have:=Nat.le_of_ble_eq_true h;simp[this]
 |false=>
  have:¬a<=b:=fun hh=>by rw[Nat.ble_eq_true_of_le hh]at h;cases h
  simp[this]
theorem vI {a b}:Hb a b=decide (a<b):=by
 show Ha (a+1) b=_;rw[nY];rfl
theorem zbo {b}:ze h0 En b=Gd:=rfl
theorem zln:pu []=Ga:=rfl
theorem zgj {k l}:pu (k::l)=decide (1000<=k):=by simp only[pu,nY]
theorem zld {k b l}:AP h0 (k::l) b=cond (decide (k<2000)) (decide (b=k-1000)&&decide (b<h0)) (cond (decide (k<4000)) (decide (b=h0+(k-2000))) (decide (b<h0))):=by
 have e:∀x y:Nat,Gb x y=decide (x=y):=fun x y=>by
  cases h:Gb x y with
  |true=>rw[Hc h];simp
  |false=>
   have:x≠y:=fun e=>by rw[e,Nat.beq_refl]at h;cases h
   simp[this]
 simp only[AP,vI,e]
theorem j8j {b l}:ze h0 (I l) b=cond (pu l) (AP h0 l b) (decide (b<h0)||l.contains (b-h0)):=by simp only[ze,vI]
def iT (r:Option qh)(v:AVal):Option bA:=match r with
 |some h'=>I ⟨v,Ga,En,h'⟩|none=>En
theorem zct {v}:iT (I h) v=I ⟨v,Ga,En,h⟩:=rfl
theorem zcw {h0 r es}:OT h0 r h Gd (I es)=iT (aQ h0 h r (.map es)) (.map (h0+r)):=rfl
def V9 (n:Nat)(h:qh)(b:Option aM)(x:aM):Option qh:=match b with
 |some .hole=>I (h.set n x)|_=>En
theorem zba {n x}:V9 n h (I .hole) x=I (h.set n x):=rfl
theorem zbu {r x}:aQ h0 h r x=V9 (h0+r) h h[h0+r]? x:=by
 unfold aQ V9;rfl
def ct (b:Bool)(r:Option bA):Option bA:=match b with
 |true=>r|false=>En
theorem zgv {r}:ct Gd r=r:=rfl
theorem zlz {r z}:qf p xc h0 al e h (.alloc r z)=ct (z.all qk) (iT (aQ h0 h r (.cells (cellsOf z))) (.ptr (h0+r) 0)):=by
 simp only[qf,qo,ct]
 cases z.all qk with
 |false=>rfl|true=>simp only[cond_true,iT];cases aQ h0 h r (.cells (cellsOf z))<;>rfl
def Wa (n:Nat)(h:qh)(x:Option AVal):Option bA:=match x with
 |some v=>ct (Gb v.flat.length n&&v.flat.all qk) (I ⟨.aq v,Ga,En,h⟩)|none=>En
theorem j70 {n v}:Wa n h (I v)=ct (Gb v.flat.length n&&v.flat.all qk) (I ⟨.aq v,Ga,En,h⟩):=rfl
theorem zmh {n x}:qf p xc h0 al e h (.lF n x)=Wa n h (qi e x):=by
 simp only[qf,qm,Wa]
 cases qi e x with
 |none=>rfl
 |some v=>
  simp only[ct];cases (Gb v.flat.length n&&v.flat.all qk)<;>rfl
def Wb (h0 r n:Nat)(h:qh)(x:Option AVal):Option bA:=match x with
 |some v=>ct (Gb v.flat.length n&&v.flat.all qk) (iT (aQ h0 h r (.cells (cellsOf v.flat))) (.ptr (h0+r) 0))|none=>En
theorem zbs {r n v}:Wb h0 r n h (I v)=ct (Gb v.flat.length n&&v.flat.all qk) (iT (aQ h0 h r (.cells (cellsOf v.flat))) (.ptr (h0+r) 0)):=rfl
theorem zm5 {r n x}:qf p xc h0 al e h (.box r n x)=Wb h0 r n h (qi e x):=by
 simp only[qf,qo,Wb]
 cases qi e x with
 |none=>rfl
 |some v=>
  simp only[ct,iT]
  cases (Gb v.flat.length n&&v.flat.all qk)with
  |false=>rfl|true=>simp only[cond_true];cases aQ h0 h r (.cells (cellsOf v.flat))<;>rfl
theorem zlu {r}:qf p xc h0 al e h (.eU r)=iT (aQ h0 h r (.map [])) (.map (h0+r)):=by
 simp only[qf,qo,iT];cases aQ h0 h r (.map [])<;>rfl
theorem j30:cellsOf []=[]:=rfl
theorem jxp {v vs}:cellsOf (v::vs)=(v,Ga)::cellsOf vs:=rfl
def zK (agg:Bool)(h:qh)(r:Option AVal):Option bA:=match r with
 |some v=>bif Bool.xor agg v.isAgg then En else val h (.aq v)|none=>En
def Gi (agg:Bool)(off n:Nat)(h:qh)(x:Option AVal):Option bA:=match x with
 |some (.ptr b o)=>val h (.ptr b (o+off))|some (.aq (.agg cs))=>zK agg h (part agg cs off n)|some (.dW b bS o)=>val h (.dW b bS (o+off))|_=>En
theorem jv9 {agg off n b v o}:Gi agg off n h (I (.dW b v o))=I ⟨.dW b v (o+off),Ga,En,h⟩:=rfl
theorem jv8 {agg off n b o}:Gi agg off n h (I (.ptr b o))=I ⟨.ptr b (o+off),Ga,En,h⟩:=rfl
theorem juf {agg off n cs}:Gi agg off n h (I (.aq (.agg cs)))=zK agg h (part agg cs off n):=rfl
theorem j4s {agg off n x}:qf p xc h0 al e h (.fieldAddr agg off n x)=Gi agg off n h (qi e x):=by
 simp only[qf,qm,Gi]
 cases qi e x with
 |none=>rfl
 |some v=>cases v with
  |aq v=>cases v<;>rfl|_=>rfl
theorem zbm {k n}:zK Ga h (I (.int k n))=I ⟨.aq (.int k n),Ga,En,h⟩:=rfl
theorem zb8 {s}:zK Ga h (I (.str s))=I ⟨.aq (.str s),Ga,En,h⟩:=rfl
theorem j74 {b}:zK Ga h (I (.bool b))=I ⟨.aq (.bool b),Ga,En,h⟩:=rfl
theorem zjr {z:Nat}{f:α->AVal}{l}:zK Ga h (I (sl z f l))=I ⟨.aq (sl z f l),Ga,En,h⟩:=by cases l<;>rfl
theorem zaq {cs}:zK Gd h (I (.agg cs))=I ⟨.aq (.agg cs),Ga,En,h⟩:=rfl
theorem zep {cs off n}:part Ga cs off n=cs[off]?:=rfl
def Wc (b:Bool)(cs:List AVal)(off n:Nat):Option AVal:=match b with
 |true=>I (.agg ((cs.drop off).take n))|false=>En
theorem j88 {cs off n}:Wc Gd cs off n=I (.agg ((cs.drop off).take n)):=rfl
theorem zkv {cs off n}:part Gd cs off n=Wc (decide (off+n<=cs.length)) cs off n:=by
 simp only[part,Wc,cond_true,nY];cases decide (off+n<=cs.length)<;>rfl
theorem zdm {z:Nat}{f:α->AVal}{l}:iu h0 al Ga 1 h (I (.aq (sl z f l)))=I ⟨sl z f l,Ga,En,h⟩:=by cases l<;>rfl
def Wd (h:qh)(cs:List AVal)(b:Bool):Option bA:=match b with
 |true=>I ⟨.agg cs,Ga,En,h⟩|false=>En
theorem zb4 {cs}:Wd h cs Gd=I ⟨.agg cs,Ga,En,h⟩:=rfl
theorem j5z {n cs}:iu h0 al Gd n h (I (.aq (.agg cs)))=Wd h cs (decide (cs.length=n)):=by
 unfold Wd;by_cases hn:cs.length=n
 .rw[jkb hn];simp[hn]
 .simp[iu,AVal.isAgg,AVal.flat,hn,OU]
def JT (agg:Bool)(h:qh)(vs:ak AVal):Option bA:=match vs with
 |some vs=>bif agg then val h (.agg vs)else(match vs with
  | [v]=>val h v
  |_=>En)
 |none=>En
theorem zk6 {vs}:JT Gd h (I vs)=I ⟨.agg vs,Ga,En,h⟩:=rfl
theorem zht {v}:JT Ga h (I [v])=I ⟨v,Ga,En,h⟩:=rfl
def Wf (b:Option aM):Option (List (AVal×Bool)):=match b with
 |some (.cells cs)=>I cs|_=>En
theorem j4d {cs}:Wf (I (.cells cs))=I cs:=rfl
theorem jb7 {b}:qv h b=Wf h[b]?:=by unfold qv Wf;rfl
def Wg (b:Bool)(cs:List (AVal×Bool))(off n:Nat):ak AVal:=match b with
 |true=>I (((cs.drop off).take n).map (·.1))|false=>En
theorem zgk {cs off n}:Wg Gd cs off n=I (((cs.drop off).take n).map (·.1)):=rfl
theorem j19 {cs off n}:zm cs off n=Wg (decide (off+n<=cs.length)) cs off n:=by
 simp only[zm,Wg,nY];cases decide (off+n<=cs.length)<;>rfl
def Wh (agg:Bool)(o n:Nat)(h:qh)(cs:Option (List (AVal×Bool))):Option bA:=match cs with
 |some cs=>JT agg h (zm cs o n)|none=>En
theorem zc4 {agg o n cs}:Wh agg o n h (I cs)=JT agg h (zm cs o n):=rfl
theorem zb6 {agg n b o}:iu h0 al agg n h (I (.ptr b o))=ct (ze h0 al b) (Wh agg o n h (qv h b)):=by
 simp only[iu,ct,Wh,JT]
 cases ze h0 al b with
 |false=>rfl
 |true=>
  simp only[cond_true]
  cases qv h b with
  |none=>rfl|some cs=>simp only[];cases zm cs o n<;>rfl
def OV (r:Option qh)(v:AVal)(w:Bool):Option bA:=match r with
 |some h'=>I ⟨v,w,En,h'⟩|none=>En
theorem j5t {v w}:OV (I h) v w=I ⟨v,w,En,h⟩:=rfl
def OW (h:qh)(b o:Nat)(cs:List (AVal×Bool))(x:Option (AVal×Bool)):Option bA:=match x with
 |some (v,w)=>OV (jy h b (.cells (cs.set o (v,Ga)))) v w|none=>En
theorem j52 {b o cs v w}:OW h b o cs (I (v,w))=OV (jy h b (.cells (cs.set o (v,Ga)))) v w:=rfl
def OX (h:qh)(b o:Nat)(cs:Option (List (AVal×Bool))):Option bA:=match cs with
 |some cs=>OW h b o cs cs[o]?|none=>En
theorem zan {b o cs}:OX h b o (I cs)=OW h b o cs cs[o]?:=rfl
def Wi (h0:Nat)(al:ak Nat)(off:Option Nat)(h:qh)(x:Option AVal):Option bA:=match x with
 |some (.ptr b o)=>ct (ze h0 al b&&vg off o) (OX h b o (qv h b))|_=>En
theorem jv6 {off b o}:Wi h0 al off h (I (.ptr b o))=ct (ze h0 al b&&vg off o) (OX h b o (qv h b)):=rfl
theorem j8r {o}:vg En o=Gd:=rfl
theorem j8a {a o}:vg (I a) o=decide (a=o):=by simp only[vg,OU]
theorem j5c {off x}:qf p xc h0 al e h (.cz off x)=Wi h0 al off h (qi e x):=by
 simp only[qf,qo,Wi]
 cases qi e x with
 |none=>rfl
 |some v=>cases v with
  |ptr b o=>
   simp only[ct,OX,OW,OV]
   cases (ze h0 al b&&vg off o)with
   |false=>rfl
   |true=>
    simp only[cond_true]
    cases qv h b with
    |none=>rfl
    |some cs=>
     simp only[]
     cases cs[o]? with
     |none=>rfl
     |some c=>
      obtain⟨v,w⟩:=c;simp only[];cases jy h b (.cells (cs.set o (v,Ga)))<;>rfl
  |_=>rfl
def Wj (b:Bool)(n:Nat)(x:aM)(h:qh):Option qh:=match b with
 |true=>I (h.set n x)|false=>En
theorem zcb {n x}:Wj Gd n x h=I (h.set n x):=rfl
theorem zcx {b x}:jy h b x=Wj (decide (b<h.length)) b x h:=by
 simp only[jy,Wj,vI];cases decide (b<h.length)<;>rfl
def Wk (b:Bool)(cs:List (AVal×Bool))(off:Nat)(vs:List AVal):Option (List (AVal×Bool)):=match b with
 |true=>I (cs.take off++vs.map (·,Ga)++cs.drop (off+vs.length))|false=>En
theorem zdq {cs off vs}:Wk Gd cs off vs=I (cs.take off++vs.map (·,Ga)++cs.drop (off+vs.length)):=rfl
theorem jv2 {cs off vs}:jx cs off vs=Wk (decide (off+vs.length<=cs.length)&&vs.all qk) cs off vs:=by
 simp only[jx,Wk,nY];cases (decide (off+vs.length<=cs.length)&&vs.all qk)<;>rfl
def OY (t:Nat)(x:Option (AVal×Bool)):Option Nat:=match x with
 |some (_,Gd)=>I t|_=>En
theorem zb1 {t v}:OY t (I (v,Gd))=I t:=rfl
theorem j85 {t v}:OY t (I (v,Ga))=En:=rfl
theorem zca {t}:zu e (.tmp t)=OY t (jp t e):=by
 simp only[zu,OY];rfl
theorem j4w {v}:zu e (.const v)=En:=rfl
def OZ (h:qh)(b:Nat)(cs:Option (List (AVal×Bool))):Option bA:=match cs with
 |some eK=>iT (jy h b (.cells eK)) .undef|none=>En
theorem j3u {b cs}:OZ h b (I cs)=iT (jy h b (.cells cs)) .undef:=rfl
def O0 (t:Nat)(r:Option qh):Option bA:=match r with
 |some h'=>I ⟨.undef,Ga,I t,h'⟩|none=>En
theorem j5v {t}:O0 t (I h)=I ⟨.undef,Ga,I t,h⟩:=rfl
def JU (n:Nat)(h:qh)(b o:Nat)(v:AVal)(own:Option Nat)(cs:Option (List (AVal×Bool))):Option bA:=match cs,own with
 |some cs,I t=>ct (Gb n 1&&v.cT&&Hb o cs.length) (O0 t (jy h b (.cells (cs.set o (v,Gd)))))|some cs,En=>ct (Gb v.flat.length n) (OZ h b (jx cs o v.flat))|none,_=>En
theorem j65 {n b o t v cs}:JU n h b o v (I t) (I cs)=ct (Gb n 1&&v.cT&&Hb o cs.length) (O0 t (jy h b (.cells (cs.set o (v,Gd))))):=rfl
theorem jzy {n b o v cs}:JU n h b o v En (I cs)=ct (Gb v.flat.length n) (OZ h b (jx cs o v.flat)):=rfl
def Wl (h0:Nat)(al:ak Nat)(n:Nat)(h:qh)(own:Option Nat)(a x:Option AVal):Option bA:=match a,x with
 |some (.ptr b o),I v=>ct (ze h0 al b) (JU n h b o v own (qv h b))|_,_=>En
theorem j9f {n b o own v}:Wl h0 al n h own (I (.ptr b o)) (I v)=ct (ze h0 al b) (JU n h b o v own (qv h b)):=rfl
theorem zl4 {n a x}:qf p xc h0 al e h (.store n a x)=Wl h0 al n h (zu e x) (qi e a) (qi e x):=by
 simp only[qf,qo,Wl]
 cases qi e a with
 |none=>rfl
 |some va=>
  cases va with
  |ptr b o=>
   cases qi e x with
   |none=>rfl
   |some v=>
    simp only[ct]
    cases ze h0 al b with
    |false=>rfl
    |true=>
     simp only[cond_true]
     cases qv h b with
     |none=>rfl
     |some cs=>
      simp only[JU]
      cases zu e x with
      |none=>
       simp only[ct,OZ,iT]
       cases Gb v.flat.length n with
       |false=>rfl
       |true=>
        simp only[cond_true]
        cases jx cs o v.flat with
        |none=>rfl|some eK=>simp only[];cases jy h b (.cells eK)<;>rfl
      |some t=>
       simp only[ct,O0]
       cases (Gb n 1&&v.cT&&Hb o cs.length)with
       |false=>rfl|true=>simp only[cond_true];cases jy h b (.cells (cs.set o (v,Gd)))<;>rfl
  |_=>rfl
theorem j4p {b z xs}:AVal.cT (.list b z xs)=Gd:=rfl
theorem zaz {z:Nat}{f:α->AVal}{l}:AVal.cT (sl z f l)=Gd:=by cases l<;>rfl
def O1 (b:Bool)(off:Nat)(vs:List AVal)(l:Option (List (Nat×List AVal))):Option (List (Nat×List AVal)):=match b,l with
 |true,I r=>I ((off,vs)::r)|_,_=>En
theorem j31 {off vs r}:O1 Gd off vs (I r)=I ((off,vs)::r):=rfl
def Wm (x:Option AVal)(off n:Nat)(l:Option (List (Nat×List AVal))):Option (List (Nat×List AVal)):=match x with
 |some v=>O1 (Gb v.flat.length n&&v.flat.all qk) off v.flat l|none=>En
theorem j4k {v off n l}:Wm (I v) off n l=O1 (Gb v.flat.length n&&v.flat.all qk) off v.flat l:=rfl
theorem jv1:kp e []=I []:=rfl
theorem juk {off n x l}:kp e ((off,n,x)::l)=Wm (qi e x) off n (kp e l):=by
 simp only[kp,Wm,O1]
 cases qi e x with
 |none=>rfl|some v=>simp only[];cases (Gb v.flat.length n&&v.flat.all qk)<;>cases kp e l<;>rfl
def lv (h:qh)(zero:List AVal)(ps:Option (List (Nat×List AVal))):Option bA:=match ps with
 |some ps=>pN h (lf zero ps)|none=>En
where pN (h:qh) (r:ak AVal):Option bA:=match r with
 |some cs=>I ⟨.agg cs,Ga,En,h⟩|none=>En
theorem zad {zero ps}:lv h zero (I ps)=lv.pN h (lf zero ps):=rfl
theorem j9s {cs}:lv.pN h (I cs)=I ⟨.agg cs,Ga,En,h⟩:=rfl
theorem zl1 {zero ps}:qf p xc h0 al e h (.build zero ps)=lv h zero (kp e ps):=by
 simp only[qf,qm,lv,lv.pN]
 cases kp e ps with
 |none=>rfl|some ps=>simp only[];cases lf zero ps<;>rfl
theorem zco {cs}:lf cs []=I cs:=rfl
def Wn (b:Bool)(cs:List AVal)(off:Nat)(vs:List AVal)(l:List (Nat×List AVal)):ak AVal:=match b with
 |true=>lf (cs.take off++vs++cs.drop (off+vs.length)) l|false=>En
theorem j7n {cs off vs l}:Wn Gd cs off vs l=lf (cs.take off++vs++cs.drop (off+vs.length)) l:=rfl
theorem j7a {cs off vs l}:lf cs ((off,vs)::l)=Wn (decide (off+vs.length<=cs.length)) cs off vs l:=by
 simp only[lf,Wn,nY];cases decide (off+vs.length<=cs.length)<;>rfl
def iw (x:Option AVal)(i sz:Nat)(l:Option (List (Nat×AVal))):Option (List (Nat×AVal)):=match x with
 |some v=>lU (Gb v.flat.length sz&&v.flat.all qk) i v l|none=>En
where lU (b:Bool) (i:Nat) (v:AVal) (l:Option (List (Nat×AVal))):Option (List (Nat×AVal)):=match b,l with
 |true,I r=>I ((i,v)::r)|_,_=>En
theorem j3z {v i sz l}:iw (I v) i sz l=iw.lU (Gb v.flat.length sz&&v.flat.all qk) i v l:=rfl
theorem j4y {v i r}:iw.lU Gd i v (I r)=I ((i,v)::r):=rfl
theorem jwb {sz}:yf e sz []=I []:=rfl
theorem jtu {sz i x l}:yf e sz ((i,x)::l)=iw (qi e x) i sz (yf e sz l):=by
 simp only[yf,iw,iw.lU]
 cases qi e x with
 |none=>rfl|some v=>simp only[];cases (Gb v.flat.length sz&&v.flat.all qk)<;>cases yf e sz l<;>rfl
theorem zcr {xs}:mA xs []=I xs:=rfl
def Wo (b:Bool)(xs:List AVal)(i:Nat)(v:AVal)(l:List (Nat×AVal)):ak AVal:=match b with
 |true=>mA (xs.set i v) l|false=>En
theorem j38 {xs i v l}:Wo Gd xs i v l=mA (xs.set i v) l:=rfl
theorem j57 {xs i v l}:mA xs ((i,v)::l)=Wo (decide (i<xs.length)) xs i v l:=by
 simp only[mA,Wo,vI];cases decide (i<xs.length)<;>rfl
def iy (sz:Nat)(h:qh)(xs:List AVal)(ps:Option (List (Nat×AVal))):Option bA:=match ps with
 |some ps=>lV sz h (mA xs ps)|none=>En
where lV (sz:Nat) (h:qh) (r:ak AVal):Option bA:=match r with
 |some xs=>I ⟨.list Ga sz xs,Gd,En,h⟩|none=>En
theorem j4x {sz xs ps}:iy sz h xs (I ps)=iy.lV sz h (mA xs ps):=rfl
theorem j4g {sz xs}:iy.lV sz h (I xs)=I ⟨.list Ga sz xs,Gd,En,h⟩:=rfl
theorem jz3 {sz len zero ps}:qf p xc h0 al e h (.buildSlice sz len zero ps)=iy sz h (List.replicate len (bif Gb sz 1 then zero.headD .undef else .agg zero)) (yf e sz ps):=by
 simp only[qf,qm,iy,iy.lV]
 cases yf e sz ps with
 |none=>rfl|some ps=>simp only[];cases mA (List.replicate len (bif Gb sz 1 then zero.headD .undef else .agg zero)) ps<;>rfl
def bV (sz bytes:Nat)(h:qh)(own:Option Nat)(x y:Option AVal):Option bA:=match x,y with
 |some (.list n dm xs),I vy=>ct (n||own.isSome) (iU sz bytes h own n dm xs (yd sz vy))|_,_=>En
where iU (sz bytes:Nat) (h:qh) (own:Option Nat) (n:Bool) (dm:Nat) (xs:List AVal) (ys:ak AVal):Option bA:=match ys with
 |some ys=>ct ((Gb sz dm||(xs.isEmpty&&n))&&Ha (xs.length+ys.length) 1073741824&&Ha bytes 4096&&Hb 0 sz) (I ⟨vf n sz xs ys,Gd,own,h⟩)|none=>En
theorem za4 {sz bytes own n dm xs vy}:bV sz bytes h own (I (.list n dm xs)) (I vy)=ct (n||own.isSome) (bV.iU sz bytes h own n dm xs (yd sz vy)):=rfl
theorem zcl {sz bytes own n dm xs ys}:bV.iU sz bytes h own n dm xs (I ys)=ct ((Gb sz dm||(xs.isEmpty&&n))&&Ha (xs.length+ys.length) 1073741824&&Ha bytes 4096&&Hb 0 sz) (I ⟨vf n sz xs ys,Gd,own,h⟩):=rfl
theorem zeu {sz bytes x y}:qf p xc h0 al e h (.append En sz bytes x y)=bV sz bytes h (zu e x) (qi e x) (qi e y):=by
 simp only[qf,qm,bV,bV.iU]
 cases qi e x with
 |none=>rfl
 |some vx=>
  cases vx with
  |list n dm xs=>
   cases qi e y with
   |none=>rfl
   |some vy=>
    simp only[ct]
    cases (n||(zu e x).isSome)with
    |false=>rfl
    |true=>
     simp only[cond_true]
     cases yd sz vy with
     |none=>rfl|some ys=>simp only[];cases ((Gb sz dm||(xs.isEmpty&&n))&&Ha (xs.length+ys.length) 1073741824&&Ha bytes 4096&&Hb 0 sz)<;>rfl
  |_=>cases qi e y<;>rfl
theorem Wp {z:Nat}{f:α->AVal}{l}:yd z (sl z f l)=I ((l.getD []).map f):=by
 cases l<;>simp[yd,sl]
theorem j4c {z xs ys}:vf Ga z xs ys=.list Ga z (xs++ys):=rfl
attribute [go_sem] zmk zlt zmx zlh znh zmc zma zch zbw zgz zm1 znc zjh zg3 zap zi9 zaw zl0 ziw zle zlj zll OU nY vI zbo zln zgj zld j8j zct zcw zba zbu zgv zlz j70 zmh zbs zm5 zlu j30 jxp jv9 jv8 juf j4s zbm zb8 j74 zjr zaq zep j88 zkv zdm zb4 j5z zk6 zht j4d jb7 zgk j19 zc4 zb6 j5t j52 zan jv6 j8r j8a j5c zcb zcx zdq jv2 zb1 j85 zca j4w j3u j5v j65 jzy j9f zl4 j4p zaz j31 j4k jv1 juk zad j9s zl1 zco j7n j7a j3z j4y jwb jtu zcr j38 j57 j4x j4g jz3 za4 zcl zeu Wp j4c
attribute [go_sem] Option.isSome_some Option.isSome_none Bool.or_true Bool.true_or List.isEmpty_nil List.isEmpty_cons Bool.and_false Bool.false_and
def Wq (h:qh)(i:Nat)(x:Option AVal):Option bA:=match x with
 |some (.aI vs)=>hJ h vs[i]?|_=>En
theorem j1g {i vs}:Wq h i (I (.aI vs))=hJ h vs[i]?:=rfl
theorem za1 {i x}:qf p xc h0 al e h (.extract x i)=Wq h i (qi e x):=by
 simp only[qf,qm,Wq]
 cases qi e x with
 |none=>rfl|some v=>cases v<;>rfl
def Wr (op:UnOp)(h:qh)(x:Option AVal):Option bA:=match x with
 |some v=>hJ h (yH op v)|none=>En
theorem zfu {op v}:Wr op h (I v)=hJ h (yH op v):=rfl
theorem znk {op x}:qf p xc h0 al e h (.un op x)=Wr op h (qi e x):=by
 simp only[qf,qm,Wr];cases qi e x<;>rfl
theorem zmm {b}:yH .not (.bool b)=I (.bool (!b)):=rfl
theorem zmt {k n}:yH .neg (.int k n)=I (.int k (qd k (0-n))):=rfl
def Ws (neq:Bool)(h:qh)(x y:Option AVal):Option bA:=match x,y with
 |some (.bool a),I (.bool b)=>val h (.bool (bif neq then !(a == b)else a == b))|_,_=>En
theorem zax {neq a b}:Ws neq h (I (.bool a)) (I (.bool b))=I ⟨.bool (bif neq then !(a == b)else a == b),Ga,En,h⟩:=rfl
theorem zmz {neq x y}:qf p xc h0 al e h (.beq neq x y)=Ws neq h (qi e x) (qi e y):=by
 simp only[qf,qm,Ws]
 cases qi e x with
 |none=>rfl|some v=>cases v<;>cases qi e y<;>rfl
def Wt (f:Fn)(h:qh)(a b:ak AVal):Option bA:=match a,b with
 |some a,I b=>val h (.fn f a b)|_,_=>En
theorem j26 {f a b}:Wt f h (I a) (I b)=I ⟨.fn f a b,Ga,En,h⟩:=rfl
theorem zk2 {f a b}:qf p xc h0 al e h (.fe f a b)=Wt f h (hH e a) (hH e b):=by
 simp only[qf,qm,Wt];cases hH e a<;>cases hH e b<;>rfl
def Wu (f:AVal->AVal->Option AVal)(h:qh)(l:ak AVal):Option bA:=match l with
 |some (v::vs)=>hJ h (pq f v vs)|_=>En
theorem ze6 {f v vs}:Wu f h (I (v::vs))=hJ h (pq f v vs):=rfl
theorem zni {l}:qf p xc h0 al e h (.mx l)=Wu max2 h (hH e l):=by
 simp only[qf,qm,Wu]
 cases hH e l with
 |none=>rfl|some vs=>cases vs<;>rfl
def Wv (f:AVal->AVal->Option AVal)(x:Option AVal)(l:List AVal):Option AVal:=match x with
 |some z=>pq f z l|none=>En
theorem j89 {f x l}:Wv f (I x) l=pq f x l:=rfl
theorem za5 {f x}:pq f x []=I x:=rfl
theorem j91 {f x y l}:pq f x (y::l)=Wv f (f x y) l:=by
 simp only[pq,Wv];rfl
theorem zkr {k x y}:max2 (.int k x) (.int k y)=I (.int k (max x y)):=by
 simp only[max2,decide_true,cond_true]
 congr 2
 by_cases h:y > x
 .rw[if_pos h];omega
 .rw[if_neg h];omega
def JV (k:Nat)(neq:Bool)(h:qh)(x:Option AVal):Option bA:=match k,x with
  |0,I (.list n _ _)=>val h (.bool (bif neq then !n else n))|0,I (.ms ..)=>val h (.bool neq)|1,I .bQ=>val h (.bool (!neq))|1,I (.ptr ..)=>val h (.bool neq)|1,I (.aq ..)=>val h (.bool neq)|2,I .cg=>val h (.bool (!neq))|2,I (.map ..)=>val h (.bool neq)|3,I .cx=>val h (.bool (!neq))|3,I (.fn ..)=>val h (.bool neq)|_,_=>En
theorem zlf {k neq x}:qf p xc h0 al e h (.fP k neq x)=JV k neq h (qi e x):=rfl
theorem j83 {neq n z xs}:JV 0 neq h (I (.list n z xs))=I ⟨.bool (bif neq then !n else n),Ga,En,h⟩:=rfl
theorem zc3 {n k i}:below n (.int k i)=Gd:=rfl
theorem j8k {n b}:below n (.bool b)=Gd:=rfl
theorem zbi {n s}:below n (.str s)=Gd:=rfl
theorem j6r {n b z xs}:below n (.list b z xs)=qp n xs:=by simp only[below]
theorem zbd {n xs}:below n (.agg xs)=qp n xs:=by simp only[below]
theorem zav {n xs}:below n (.aI xs)=qp n xs:=by simp only[below]
theorem zcg {n b o}:below n (.ptr b o)=decide (b<n):=by simp only[below,vI]
theorem za6 {n b}:below n (.map b)=decide (b<n):=by simp only[below,vI]
theorem ze0 {n k a b}:below n (.fn (.func k) a b)=(qp n a&&qp n b):=by simp only[below]
theorem zab {n}:qp n []=Gd:=by simp only[qp]
theorem j37 {n x xs}:qp n (x::xs)=(below n x&&qp n xs):=by simp only[qp]
theorem j6x {n i}:below n (zf i)=Gd:=rfl
theorem j9h {n z l}:below n (sl z zf l)=Gd:=vH fun _=>rfl
theorem zlw {k i}:ku h (.int k i)=I (.int k i):=rfl
theorem zkg {b}:ku h (.bool b)=I (.bool b):=rfl
theorem zl5 {s}:ku h (.str s)=I (.str s):=rfl
theorem zfi {b z xs}:ku h (.list b z xs)=I (.list b z xs):=rfl
theorem zmo {z:Nat}{f:α->AVal}{l}:ku h (sl z f l)=I (sl z f l):=by cases l<;>rfl
theorem zd6:mU h []=I []:=rfl
theorem zbl {v vs}:mU h (v::vs)=tG (ku h v) (mU h vs):=by
 simp only[mU,tG]
 cases ku h v with
 |none=>rfl|some x=>cases mU h vs<;>rfl
def O2 (l:ak AVal):Option AVal:=match l with
 |some xs=>I (.agg xs)|none=>En
theorem zbx {xs}:O2 (I xs)=I (.agg xs):=rfl
theorem Ww {cs}:aX h (.agg cs)=O2 (mU h cs):=by
 simp only[aX,O2];cases mU h cs<;>rfl
theorem zig {k i}:aX h (.int k i)=I (.int k i):=rfl
theorem zay {b}:aX h (.bool b)=I (.bool b):=rfl
theorem zfh {s}:aX h (.str s)=I (.str s):=rfl
theorem zbc {b z xs}:aX h (.list b z xs)=I (.list b z xs):=rfl
theorem zl7 {z:Nat}{f:α->AVal}{l}:aX h (sl z f l)=I (sl z f l):=by cases l<;>rfl
def Wx (l:ak AVal):Option AVal:=match l with
 |some xs=>I (.aI xs)|none=>En
theorem zby {xs}:Wx (I xs)=I (.aI xs):=rfl
theorem zdj {cs}:aX h (.aI cs)=Wx (aX.bT h cs):=by
 simp only[aX,Wx];cases aX.bT h cs<;>rfl
theorem zkt:aX.bT h []=I []:=rfl
theorem zin {cs vs}:aX.bT h (.agg cs::vs)=tG (O2 (mU h cs)) (aX.bT h vs):=by
 rw[aX.bT]
 cases mU h cs with
 |none=>rfl|some x=>cases aX.bT h vs<;>rfl
theorem O3 {v vs}(hv:v.isAgg=Ga):aX.bT h (v::vs)=tG (ku h v) (aX.bT h vs):=by
 have:∀cs,v≠.agg cs:=fun cs hc=>by rw[hc]at hv;cases hv
 rw[aX.bT]
 .cases ku h v with
  |none=>rfl|some x=>cases aX.bT h vs<;>rfl
 .exact this
theorem zf5 {k i vs}:aX.bT h (.int k i::vs)=tG (I (.int k i)) (aX.bT h vs):=O3 rfl
theorem zcq {b vs}:aX.bT h (.bool b::vs)=tG (I (.bool b)) (aX.bT h vs):=O3 rfl
theorem zgw {s vs}:aX.bT h (.str s::vs)=tG (I (.str s)) (aX.bT h vs):=O3 rfl
theorem zcm {b z xs vs}:aX.bT h (.list b z xs::vs)=tG (I (.list b z xs)) (aX.bT h vs):=O3 rfl
attribute [go_sem] j1g za1 zfu znk zmm zmt zax zmz j26 zk2 ze6 zni j89 za5 j91 zkr zlf j83 zc3 j8k zbi j6r zbd zav zcg za6 ze0 zab j37 j6x j9h zlw zkg zl5 zfi zmo zd6 zbl zbx Ww zig zay zfh zbc zl7 zby zdj zkt zin zf5 zcq zgw zcm
attribute [go_sem] List.contains_cons List.contains_nil
theorem zlo {a b:Nat}:(a == b)=decide (a=b):=by
 by_cases yO:a=b<;>simp[yO]
def JW (agg:Bool)(c:Option (AVal×Bool))(vs:ak AVal):Option (AVal×Bool):=match vs,agg with
 |some vs,Gd=>I (.agg vs,Ga)|some _,Ga=>c|none,_=>En
theorem za8 {c vs}:JW Gd c (I vs)=I (.agg vs,Ga):=rfl
theorem zb0 {c vs}:JW Ga c (I vs)=c:=rfl
def O4 (agg:Bool)(o n:Nat)(cs:Option (List (AVal×Bool))):Option (AVal×Bool):=match cs with
 |some cs=>JW agg cs[o]? (zm cs o n)|none=>En
theorem j90 {agg o n cs}:O4 agg o n (I cs)=JW agg cs[o]? (zm cs o n):=rfl
def Wy (agg:Bool)(n:Nat)(h:qh)(x:Option (AVal×Bool)):Option (AVal×Bool):=match x with
 |some (.ptr b o,_)=>O4 agg o n (qv h b)|_=>En
theorem zcs {agg n b o w}:Wy agg n h (I (.ptr b o,w))=O4 agg o n (qv h b):=rfl
theorem jwe {t n agg}:vh ⟨e,h⟩ (.cell t agg n)=Wy agg n h (jp t e):=by
 simp only[vh,Wy]
 cases jp t e with
 |none=>rfl
 |some x=>
  obtain⟨v,w⟩:=x
  cases v with
  |ptr b o=>
   simp only[O4]
   cases qv h b with
   |none=>rfl
   |some cs=>
    simp only[JW]
    cases zm cs o n with
    |none=>rfl
    |some vs=>cases agg with
     |true=>rfl|false=>simp only[cond_false];cases cs[o]?<;>rfl
  |_=>rfl
theorem je {k args v v' o}(hp:p.cD k=En)(hc:ai p xc k args []=I (v,o,h))(hz:aX h v=I v')(hv:below 0 v'=Gd):ae p xc k args=I (v',o&&v.cT):=by
 unfold ae;rw[hp];simp only[hc,hz,mC,hv,cond_true]
end
attribute [go_sem] zlo za8 zb0 j90 zcs jwe
end Go.Abs
