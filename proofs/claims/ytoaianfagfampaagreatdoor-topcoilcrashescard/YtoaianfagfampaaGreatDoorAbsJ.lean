/- Equations of the executor, second part. -/
import Derived.Test.YtoaianfagfampaaGreatDoorAbsI
set_option linter.all false
open Option renaming some->I,none->Eb
open Bool renaming false->Eg,true->En
open Nat renaming beq->Eh,ble->Ep,blt->E3,eq_of_beq_eq_true->E4
namespace Go.Abs
section
variable {p:j8}{xc:XC}{h0:Nat}{al:ak Nat}{e:Env}{h:qi}{α:Type}
attribute [go_sem] List.getElem?_cons_zero List.getElem?_cons_succ List.getElem?_nil List.set_cons_zero List.set_cons_succ List.set_nil List.cons_append List.replicate_zero List.replicate_succ List.map_cons List.map_nil List.all_cons List.all_nil List.drop_zero List.drop_succ_cons List.take_zero List.take_succ_cons List.drop_nil List.take_nil Bool.and_true Bool.true_and Bool.or_false Bool.false_or Bool.and_self List.headD_cons List.foldl_cons List.foldl_nil List.flatMap_cons List.flatMap_nil
theorem zcp {k n}:qm (.int k n)=En:=rfl
theorem zb9 {b}:qm (.bool b)=En:=rfl
theorem zcf {s}:qm (.str s)=En:=rfl
theorem zb1 {b z xs}:qm (.list b z xs)=En:=rfl
theorem zdj {b o n}:qm (.ms b o n)=En:=rfl
theorem zc0 {b o}:qm (.ptr b o)=En:=rfl
theorem zcl {b}:qm (.map b)=En:=rfl
theorem j4f:qm .cC=En:=rfl
theorem j2k:qm .cD=En:=rfl
theorem j8a:qm .cO=En:=rfl
theorem zdc {f a b}:qm (.fn f a b)=En:=rfl
theorem zdo {z:Nat}{f:α->AVal}{l}:qm (sl z f l)=En:=by cases l<;>rfl
theorem j6x {cs}:AVal.flat (.agg cs)=cs:=rfl
theorem j8i {k n}:AVal.flat (.int k n)=[.int k n]:=rfl
theorem j3l {b}:AVal.flat (.bool b)=[.bool b]:=rfl
theorem j62 {s}:AVal.flat (.str s)=[.str s]:=rfl
theorem j4l {b z xs}:AVal.flat (.list b z xs)=[.list b z xs]:=rfl
theorem zcc {z:Nat}{f:α->AVal}{l}:AVal.flat (sl z f l)=[sl z f l]:=by cases l<;>rfl
theorem zaa {b o}:AVal.flat (.ptr b o)=[.ptr b o]:=rfl
theorem j8q {b}:AVal.flat (.map b)=[.map b]:=rfl
theorem zb6 {f a b}:AVal.flat (.fn f a b)=[.fn f a b]:=rfl
theorem zbz {b o n}:AVal.flat (.ms b o n)=[.ms b o n]:=rfl
theorem Tk {a b}:Eh a b=decide (a=b):=by
 cases h:Eh a b with
 |true=>have:=E4 h;simp[this]
 |false=>
  have:a≠b:=fun hh=>by subst hh;simp at h
  simp[this]
theorem np {a b}:Ep a b=decide (a<=b):=by
 cases h:Ep a b with
 |true=>have:=Nat.le_of_ble_eq_true h;simp[this]
 |false=>
  have:¬a<=b:=fun hh=>by rw[Nat.ble_eq_true_of_le hh]at h;cases h
  simp[this]
theorem ur {a b}:E3 a b=decide (a<b):=by
 show Ep (a+1) b=_;rw[np];rfl
theorem j3b {b}:j9 h0 Eb b=En:=rfl
theorem zbo:oA []=Eg:=rfl
theorem j60 {k l}:oA (k::l)=decide (1000<=k):=by simp only[oA,np]
theorem j5n {k b l}:Aa h0 (k::l) b=cond (decide (k<2000)) (decide (b=k-1000)&&decide (b<h0)) (cond (decide (k<4000)) (decide (b=h0+(k-2000))) (decide (b<h0))):=by
 have e:∀x y:Nat,Eh x y=decide (x=y):=fun x y=>by
  cases h:Eh x y with
  |true=>rw[E4 h];simp
  |false=>
   have:x≠y:=fun e=>by rw[e,Nat.beq_refl]at h;cases h
   simp[this]
 simp only[Aa,ur,e]
theorem jxh {b l}:j9 h0 (I l) b=cond (oA l) (Aa h0 l b) (decide (b<h0)||l.contains (b-h0)):=by simp only[j9,ur]
def iy (r:Option qi)(v:AVal):Option br:=match r with
 |some h'=>I ⟨v,Eg,Eb,h'⟩|none=>Eb
theorem j3i {v}:iy (I h) v=I ⟨v,Eg,Eb,h⟩:=rfl
theorem j2b {h0 r es}:MP h0 r h En (I es)=iy (aK h0 h r (.map es)) (.map (h0+r)):=rfl
def Tl (n:Nat)(h:qi)(b:Option bG)(x:bG):Option qi:=match b with
 |some .hole=>I (h.set n x)|_=>Eb
theorem j3c {n x}:Tl n h (I .hole) x=I (h.set n x):=rfl
theorem j2q {r x}:aK h0 h r x=Tl (h0+r) h h[h0+r]? x:=by
 unfold aK Tl;rfl
def cm (b:Bool)(r:Option br):Option br:=match b with
 |true=>r|false=>Eb
theorem j73 {r}:cm En r=r:=rfl
theorem zbt {r z}:qg p xc h0 al e h (.alloc r z)=cm (z.all qm) (iy (aK h0 h r (.cells (cellsOf z))) (.ptr (h0+r) 0)):=by
 simp only[qg,qq,cm]
 cases z.all qm with
 |false=>rfl|true=>simp only[cond_true,iy];cases aK h0 h r (.cells (cellsOf z))<;>rfl
def Tm (n:Nat)(h:qi)(x:Option AVal):Option br:=match x with
 |some v=>cm (Eh v.flat.length n&&v.flat.all qm) (I ⟨.aq v,Eg,Eb,h⟩)|none=>Eb
theorem j18 {n v}:Tm n h (I v)=cm (Eh v.flat.length n&&v.flat.all qm) (I ⟨.aq v,Eg,Eb,h⟩):=rfl
theorem zcn {n x}:qg p xc h0 al e h (.kN n x)=Tm n h (qj e x):=by
 simp only[qg,qn,Tm]
 cases qj e x with
 |none=>rfl
 |some v=>
  simp only[cm];cases (Eh v.flat.length n&&v.flat.all qm)<;>rfl
def Tn (h0 r n:Nat)(h:qi)(x:Option AVal):Option br:=match x with
 |some v=>cm (Eh v.flat.length n&&v.flat.all qm) (iy (aK h0 h r (.cells (cellsOf v.flat))) (.ptr (h0+r) 0))|none=>Eb
theorem j3p {r n v}:Tn h0 r n h (I v)=cm (Eh v.flat.length n&&v.flat.all qm) (iy (aK h0 h r (.cells (cellsOf v.flat))) (.ptr (h0+r) 0)):=rfl
theorem zdb {r n x}:qg p xc h0 al e h (.box r n x)=Tn h0 r n h (qj e x):=by
 simp only[qg,qq,Tn]
 cases qj e x with
 |none=>rfl
 |some v=>
  simp only[cm,iy]
  cases (Eh v.flat.length n&&v.flat.all qm)with
  |false=>rfl|true=>simp only[cond_true];cases aK h0 h r (.cells (cellsOf v.flat))<;>rfl
theorem zbn {r}:qg p xc h0 al e h (.eP r)=iy (aK h0 h r (.map [])) (.map (h0+r)):=by
 simp only[qg,qq,iy];cases aK h0 h r (.map [])<;>rfl
theorem jxf:cellsOf []=[]:=rfl
theorem js9 {v vs}:cellsOf (v::vs)=(v,Eg)::cellsOf vs:=rfl
def xW (agg:Bool)(h:qi)(r:Option AVal):Option br:=match r with
 |some v=>bif Bool.xor agg v.isAgg then Eb else val h (.aq v)|none=>Eb
def Fg (agg:Bool)(off n:Nat)(h:qi)(x:Option AVal):Option br:=match x with
 |some (.ptr b o)=>val h (.ptr b (o+off))|some (.aq (.agg cs))=>xW agg h (part agg cs off n)|some (.dN b bO o)=>val h (.dN b bO (o+off))|_=>Eb
theorem jq1 {agg off n b v o}:Fg agg off n h (I (.dN b v o))=I ⟨.dN b v (o+off),Eg,Eb,h⟩:=rfl
theorem jrb {agg off n b o}:Fg agg off n h (I (.ptr b o))=I ⟨.ptr b (o+off),Eg,Eb,h⟩:=rfl
theorem jop {agg off n cs}:Fg agg off n h (I (.aq (.agg cs)))=xW agg h (part agg cs off n):=rfl
theorem jw4 {agg off n x}:qg p xc h0 al e h (.fieldAddr agg off n x)=Fg agg off n h (qj e x):=by
 simp only[qg,qn,Fg]
 cases qj e x with
 |none=>rfl
 |some v=>cases v with
  |aq v=>cases v<;>rfl|_=>rfl
theorem j4q {k n}:xW Eg h (I (.int k n))=I ⟨.aq (.int k n),Eg,Eb,h⟩:=rfl
theorem j27 {s}:xW Eg h (I (.str s))=I ⟨.aq (.str s),Eg,Eb,h⟩:=rfl
theorem jx0 {b}:xW Eg h (I (.bool b))=I ⟨.aq (.bool b),Eg,Eb,h⟩:=rfl
theorem j9v {z:Nat}{f:α->AVal}{l}:xW Eg h (I (sl z f l))=I ⟨.aq (sl z f l),Eg,Eb,h⟩:=by cases l<;>rfl
theorem j39 {cs}:xW En h (I (.agg cs))=I ⟨.aq (.agg cs),Eg,Eb,h⟩:=rfl
theorem j9g {cs off n}:part Eg cs off n=cs[off]?:=rfl
def Tp (b:Bool)(cs:List AVal)(off n:Nat):Option AVal:=match b with
 |true=>I (.agg ((cs.drop off).take n))|false=>Eb
theorem j0t {cs off n}:Tp En cs off n=I (.agg ((cs.drop off).take n)):=rfl
theorem j9e {cs off n}:part En cs off n=Tp (decide (off+n<=cs.length)) cs off n:=by
 simp only[part,Tp,cond_true,np];cases decide (off+n<=cs.length)<;>rfl
theorem j7i {z:Nat}{f:α->AVal}{l}:kh h0 al Eg 1 h (I (.aq (sl z f l)))=I ⟨sl z f l,Eg,Eb,h⟩:=by cases l<;>rfl
def Tq (h:qi)(cs:List AVal)(b:Bool):Option br:=match b with
 |true=>I ⟨.agg cs,Eg,Eb,h⟩|false=>Eb
theorem j4b {cs}:Tq h cs En=I ⟨.agg cs,Eg,Eb,h⟩:=rfl
theorem jxi {n cs}:kh h0 al En n h (I (.aq (.agg cs)))=Tq h cs (decide (cs.length=n)):=by
 unfold Tq;by_cases hn:cs.length=n
 .rw[jhw hn];simp[hn]
 .simp[kh,AVal.isAgg,AVal.flat,hn,Tk]
def II (agg:Bool)(h:qi)(vs:ak AVal):Option br:=match vs with
 |some vs=>bif agg then val h (.agg vs)else(match vs with
  | [v]=>val h v
  |_=>Eb)
 |none=>Eb
theorem j94 {vs}:II En h (I vs)=I ⟨.agg vs,Eg,Eb,h⟩:=rfl
theorem j78 {v}:II Eg h (I [v])=I ⟨v,Eg,Eb,h⟩:=rfl
def Tr (b:Option bG):Option (List (AVal×Bool)):=match b with
 |some (.cells cs)=>I cs|_=>Eb
theorem jw0 {cs}:Tr (I (.cells cs))=I cs:=rfl
theorem q9e {b}:qy h b=Tr h[b]?:=by unfold qy Tr;rfl
def Ts (b:Bool)(cs:List (AVal×Bool))(off n:Nat):ak AVal:=match b with
 |true=>I (((cs.drop off).take n).map (·.1))|false=>Eb
theorem j5u {cs off n}:Ts En cs off n=I (((cs.drop off).take n).map (·.1)):=rfl
theorem jrm {cs off n}:zm cs off n=Ts (decide (off+n<=cs.length)) cs off n:=by
 simp only[zm,Ts,np];cases decide (off+n<=cs.length)<;>rfl
def Tt (agg:Bool)(o n:Nat)(h:qi)(cs:Option (List (AVal×Bool))):Option br:=match cs with
 |some cs=>II agg h (zm cs o n)|none=>Eb
theorem j2i {agg o n cs}:Tt agg o n h (I cs)=II agg h (zm cs o n):=rfl
theorem j2a {agg n b o}:kh h0 al agg n h (I (.ptr b o))=cm (j9 h0 al b) (Tt agg o n h (qy h b)):=by
 simp only[kh,cm,Tt,II]
 cases j9 h0 al b with
 |false=>rfl
 |true=>
  simp only[cond_true]
  cases qy h b with
  |none=>rfl|some cs=>simp only[];cases zm cs o n<;>rfl
def MQ (r:Option qi)(v:AVal)(w:Bool):Option br:=match r with
 |some h'=>I ⟨v,w,Eb,h'⟩|none=>Eb
theorem jyh {v w}:MQ (I h) v w=I ⟨v,w,Eb,h⟩:=rfl
def MR (h:qi)(b o:Nat)(cs:List (AVal×Bool))(x:Option (AVal×Bool)):Option br:=match x with
 |some (v,w)=>MQ (jx h b (.cells (cs.set o (v,Eg)))) v w|none=>Eb
theorem jy2 {b o cs v w}:MR h b o cs (I (v,w))=MQ (jx h b (.cells (cs.set o (v,Eg)))) v w:=rfl
def MS (h:qi)(b o:Nat)(cs:Option (List (AVal×Bool))):Option br:=match cs with
 |some cs=>MR h b o cs cs[o]?|none=>Eb
theorem jzl {b o cs}:MS h b o (I cs)=MR h b o cs cs[o]?:=rfl
def Tv (h0:Nat)(al:ak Nat)(off:Option Nat)(h:qi)(x:Option AVal):Option br:=match x with
 |some (.ptr b o)=>cm (j9 h0 al b&&xp off o) (MS h b o (qy h b))|_=>Eb
theorem jq6 {off b o}:Tv h0 al off h (I (.ptr b o))=cm (j9 h0 al b&&xp off o) (MS h b o (qy h b)):=rfl
theorem jx6 {o}:xp Eb o=En:=rfl
theorem j0v {off x}:qg p xc h0 al e h (.cw off x)=Tv h0 al off h (qj e x):=by
 simp only[qg,qq,Tv]
 cases qj e x with
 |none=>rfl
 |some v=>cases v with
  |ptr b o=>
   simp only[cm,MS,MR,MQ]
   cases (j9 h0 al b&&xp off o)with
   |false=>rfl
   |true=>
    simp only[cond_true]
    cases qy h b with
    |none=>rfl
    |some cs=>
     simp only[]
     cases cs[o]? with
     |none=>rfl
     |some c=>
      obtain⟨v,w⟩:=c;simp only[];cases jx h b (.cells (cs.set o (v,Eg)))<;>rfl
  |_=>rfl
def Tw (b:Bool)(n:Nat)(x:bG)(h:qi):Option qi:=match b with
 |true=>I (h.set n x)|false=>Eb
theorem j38 {n x}:Tw En n x h=I (h.set n x):=rfl
theorem j3n {b x}:jx h b x=Tw (decide (b<h.length)) b x h:=by
 simp only[jx,Tw,ur];cases decide (b<h.length)<;>rfl
def Tx (b:Bool)(cs:List (AVal×Bool))(off:Nat)(vs:List AVal):Option (List (AVal×Bool)):=match b with
 |true=>I (cs.take off++vs.map (·,Eg)++cs.drop (off+vs.length))|false=>Eb
theorem j5a {cs off vs}:Tx En cs off vs=I (cs.take off++vs.map (·,Eg)++cs.drop (off+vs.length)):=rfl
theorem jq5 {cs off vs}:jr cs off vs=Tx (decide (off+vs.length<=cs.length)&&vs.all qm) cs off vs:=by
 simp only[jr,Tx,np];cases (decide (off+vs.length<=cs.length)&&vs.all qm)<;>rfl
def MT (t:Nat)(x:Option (AVal×Bool)):Option Nat:=match x with
 |some (_,En)=>I t|_=>Eb
theorem j4j {t v}:MT t (I (v,En))=I t:=rfl
theorem jzs {t v}:MT t (I (v,Eg))=Eb:=rfl
theorem j30 {t}:zw e (.tmp t)=MT t (jm t e):=by
 simp only[zw,MT];rfl
theorem jwz {v}:zw e (.const v)=Eb:=rfl
def MU (h:qi)(b:Nat)(cs:Option (List (AVal×Bool))):Option br:=match cs with
 |some eE=>iy (jx h b (.cells eE)) .undef|none=>Eb
theorem jrg {b cs}:MU h b (I cs)=iy (jx h b (.cells cs)) .undef:=rfl
def MV (t:Nat)(r:Option qi):Option br:=match r with
 |some h'=>I ⟨.undef,Eg,I t,h'⟩|none=>Eb
theorem jyg {t}:MV t (I h)=I ⟨.undef,Eg,I t,h⟩:=rfl
def IJ (n:Nat)(h:qi)(b o:Nat)(v:AVal)(own:Option Nat)(cs:Option (List (AVal×Bool))):Option br:=match cs,own with
 |some cs,I t=>cm (Eh n 1&&v.cP&&E3 o cs.length) (MV t (jx h b (.cells (cs.set o (v,En)))))|some cs,Eb=>cm (Eh v.flat.length n) (MU h b (jr cs o v.flat))|none,_=>Eb
theorem j1r {n b o t v cs}:IJ n h b o v (I t) (I cs)=cm (Eh n 1&&v.cP&&E3 o cs.length) (MV t (jx h b (.cells (cs.set o (v,En))))):=rfl
theorem jtt {n b o v cs}:IJ n h b o v Eb (I cs)=cm (Eh v.flat.length n) (MU h b (jr cs o v.flat)):=rfl
def Ty (h0:Nat)(al:ak Nat)(n:Nat)(h:qi)(own:Option Nat)(a x:Option AVal):Option br:=match a,x with
 |some (.ptr b o),I v=>cm (j9 h0 al b) (IJ n h b o v own (qy h b))|_,_=>Eb
theorem jzr {n b o own v}:Ty h0 al n h own (I (.ptr b o)) (I v)=cm (j9 h0 al b) (IJ n h b o v own (qy h b)):=rfl
theorem zcd {n a x}:qg p xc h0 al e h (.store n a x)=Ty h0 al n h (zw e x) (qj e a) (qj e x):=by
 simp only[qg,qq,Ty]
 cases qj e a with
 |none=>rfl
 |some va=>
  cases va with
  |ptr b o=>
   cases qj e x with
   |none=>rfl
   |some v=>
    simp only[cm]
    cases j9 h0 al b with
    |false=>rfl
    |true=>
     simp only[cond_true]
     cases qy h b with
     |none=>rfl
     |some cs=>
      simp only[IJ]
      cases zw e x with
      |none=>
       simp only[cm,MU,iy]
       cases Eh v.flat.length n with
       |false=>rfl
       |true=>
        simp only[cond_true]
        cases jr cs o v.flat with
        |none=>rfl|some eE=>simp only[];cases jx h b (.cells eE)<;>rfl
      |some t=>
       simp only[cm,MV]
       cases (Eh n 1&&v.cP&&E3 o cs.length)with
       |false=>rfl|true=>simp only[cond_true];cases jx h b (.cells (cs.set o (v,En)))<;>rfl
  |_=>rfl
theorem jwj {b z xs}:AVal.cP (.list b z xs)=En:=rfl
theorem j2v {z:Nat}{f:α->AVal}{l}:AVal.cP (sl z f l)=En:=by cases l<;>rfl
def MW (b:Bool)(off:Nat)(vs:List AVal)(l:Option (List (Nat×List AVal))):Option (List (Nat×List AVal)):=match b,l with
 |true,I r=>I ((off,vs)::r)|_,_=>Eb
theorem jww {off vs r}:MW En off vs (I r)=I ((off,vs)::r):=rfl
def Tz (x:Option AVal)(off n:Nat)(l:Option (List (Nat×List AVal))):Option (List (Nat×List AVal)):=match x with
 |some v=>MW (Eh v.flat.length n&&v.flat.all qm) off v.flat l|none=>Eb
theorem jwt {v off n l}:Tz (I v) off n l=MW (Eh v.flat.length n&&v.flat.all qm) off v.flat l:=rfl
theorem jq8:km e []=I []:=rfl
theorem jpu {off n x l}:km e ((off,n,x)::l)=Tz (qj e x) off n (km e l):=by
 simp only[km,Tz,MW]
 cases qj e x with
 |none=>rfl|some v=>simp only[];cases (Eh v.flat.length n&&v.flat.all qm)<;>cases km e l<;>rfl
def kC (h:qi)(zero:List AVal)(ps:Option (List (Nat×List AVal))):Option br:=match ps with
 |some ps=>oS h (jT zero ps)|none=>Eb
where oS (h:qi) (r:ak AVal):Option br:=match r with
 |some cs=>I ⟨.agg cs,Eg,Eb,h⟩|none=>Eb
theorem jz7 {zero ps}:kC h zero (I ps)=kC.oS h (jT zero ps):=rfl
theorem jxz {cs}:kC.oS h (I cs)=I ⟨.agg cs,Eg,Eb,h⟩:=rfl
theorem zbs {zero ps}:qg p xc h0 al e h (.build zero ps)=kC h zero (km e ps):=by
 simp only[qg,qn,kC,kC.oS]
 cases km e ps with
 |none=>rfl|some ps=>simp only[];cases jT zero ps<;>rfl
theorem j2w {cs}:jT cs []=I cs:=rfl
def TA (b:Bool)(cs:List AVal)(off:Nat)(vs:List AVal)(l:List (Nat×List AVal)):ak AVal:=match b with
 |true=>jT (cs.take off++vs++cs.drop (off+vs.length)) l|false=>Eb
theorem jx8 {cs off vs l}:TA En cs off vs l=jT (cs.take off++vs++cs.drop (off+vs.length)) l:=rfl
theorem jxw {cs off vs l}:jT cs ((off,vs)::l)=TA (decide (off+vs.length<=cs.length)) cs off vs l:=by
 simp only[jT,TA,np];cases decide (off+vs.length<=cs.length)<;>rfl
def gP (x:Option AVal)(i sz:Nat)(l:Option (List (Nat×AVal))):Option (List (Nat×AVal)):=match x with
 |some v=>ln (Eh v.flat.length sz&&v.flat.all qm) i v l|none=>Eb
where ln (b:Bool) (i:Nat) (v:AVal) (l:Option (List (Nat×AVal))):Option (List (Nat×AVal)):=match b,l with
 |true,I r=>I ((i,v)::r)|_,_=>Eb
theorem jws {v i sz l}:gP (I v) i sz l=gP.ln (Eh v.flat.length sz&&v.flat.all qm) i v l:=rfl
theorem jw6 {v i r}:gP.ln En i v (I r)=I ((i,v)::r):=rfl
theorem jrc {sz}:z9 e sz []=I []:=rfl
theorem jpz {sz i x l}:z9 e sz ((i,x)::l)=gP (qj e x) i sz (z9 e sz l):=by
 simp only[z9,gP,gP.ln]
 cases qj e x with
 |none=>rfl|some v=>simp only[];cases (Eh v.flat.length sz&&v.flat.all qm)<;>cases z9 e sz l<;>rfl
theorem j2f {xs}:lG xs []=I xs:=rfl
def TB (b:Bool)(xs:List AVal)(i:Nat)(v:AVal)(l:List (Nat×AVal)):ak AVal:=match b with
 |true=>lG (xs.set i v) l|false=>Eb
theorem jwm {xs i v l}:TB En xs i v l=lG (xs.set i v) l:=rfl
theorem jyc {xs i v l}:lG xs ((i,v)::l)=TB (decide (i<xs.length)) xs i v l:=by
 simp only[lG,TB,ur];cases decide (i<xs.length)<;>rfl
def gQ (sz:Nat)(h:qi)(xs:List AVal)(ps:Option (List (Nat×AVal))):Option br:=match ps with
 |some ps=>lq sz h (lG xs ps)|none=>Eb
where lq (sz:Nat) (h:qi) (r:ak AVal):Option br:=match r with
 |some xs=>I ⟨.list Eg sz xs,En,Eb,h⟩|none=>Eb
theorem jw9 {sz xs ps}:gQ sz h xs (I ps)=gQ.lq sz h (lG xs ps):=rfl
theorem jxc {sz xs}:gQ.lq sz h (I xs)=I ⟨.list Eg sz xs,En,Eb,h⟩:=rfl
theorem jvy {sz len zero ps}:qg p xc h0 al e h (.buildSlice sz len zero ps)=gQ sz h (List.replicate len (bif Eh sz 1 then zero.headD .undef else .agg zero)) (z9 e sz ps):=by
 simp only[qg,qn,gQ,gQ.lq]
 cases z9 e sz ps with
 |none=>rfl|some ps=>simp only[];cases lG (List.replicate len (bif Eh sz 1 then zero.headD .undef else .agg zero)) ps<;>rfl
def bR (sz bytes:Nat)(h:qi)(own:Option Nat)(x y:Option AVal):Option br:=match x,y with
 |some (.list n de xs),I vy=>cm (n||own.isSome) (iz sz bytes h own n de xs (yb sz vy))|_,_=>Eb
where iz (sz bytes:Nat) (h:qi) (own:Option Nat) (n:Bool) (de:Nat) (xs:List AVal) (ys:ak AVal):Option br:=match ys with
 |some ys=>cm ((Eh sz de||(xs.isEmpty&&n))&&Ep (xs.length+ys.length) 1073741824&&Ep bytes 4096&&E3 0 sz) (I ⟨tQ n sz xs ys,En,own,h⟩)|none=>Eb
theorem j2u {sz bytes own n de xs vy}:bR sz bytes h own (I (.list n de xs)) (I vy)=cm (n||own.isSome) (bR.iz sz bytes h own n de xs (yb sz vy)):=rfl
theorem j3m {sz bytes own n de xs ys}:bR.iz sz bytes h own n de xs (I ys)=cm ((Eh sz de||(xs.isEmpty&&n))&&Ep (xs.length+ys.length) 1073741824&&Ep bytes 4096&&E3 0 sz) (I ⟨tQ n sz xs ys,En,own,h⟩):=rfl
theorem za9 {sz bytes x y}:qg p xc h0 al e h (.append Eb sz bytes x y)=bR sz bytes h (zw e x) (qj e x) (qj e y):=by
 simp only[qg,qn,bR,bR.iz]
 cases qj e x with
 |none=>rfl
 |some vx=>
  cases vx with
  |list n de xs=>
   cases qj e y with
   |none=>rfl
   |some vy=>
    simp only[cm]
    cases (n||(zw e x).isSome)with
    |false=>rfl
    |true=>
     simp only[cond_true]
     cases yb sz vy with
     |none=>rfl|some ys=>simp only[];cases ((Eh sz de||(xs.isEmpty&&n))&&Ep (xs.length+ys.length) 1073741824&&Ep bytes 4096&&E3 0 sz)<;>rfl
  |_=>cases qj e y<;>rfl
theorem TC {z:Nat}{f:α->AVal}{l}:yb z (sl z f l)=I ((l.getD []).map f):=by
 cases l<;>simp[yb,sl]
theorem jwc {z xs ys}:tQ Eg z xs ys=.list Eg z (xs++ys):=rfl
attribute [go_sem] zcp zb9 zcf zb1 zdj zc0 zcl j4f j2k j8a zdc zdo j6x j8i j3l j62 j4l zcc zaa j8q zb6 zbz Tk np ur j3b zbo j60 j5n jxh j3i j2b j3c j2q j73 zbt j18 zcn j3p zdb zbn jxf js9 jq1 jrb jop jw4 j4q j27 jx0 j9v j39 j9g j0t j9e j7i j4b jxi j94 j78 jw0 q9e j5u jrm j2i j2a jyh jy2 jzl jq6 jx6 j0v j38 j3n j5a jq5 j4j jzs j30 jwz jrg jyg j1r jtt jzr zcd jwj j2v jww jwt jq8 jpu jz7 jxz zbs j2w jx8 jxw jws jw6 jrc jpz j2f jwm jyc jw9 jxc jvy j2u j3m za9 TC jwc
attribute [go_sem] Option.isSome_some Option.isSome_none Bool.or_true Bool.true_or List.isEmpty_nil List.isEmpty_cons Bool.and_false Bool.false_and
def TD (h:qi)(i:Nat)(x:Option AVal):Option br:=match x with
 |some (.bq vs)=>gF h vs[i]?|_=>Eb
theorem jva {i vs}:TD h i (I (.bq vs))=gF h vs[i]?:=rfl
theorem j31 {i x}:qg p xc h0 al e h (.extract x i)=TD h i (qj e x):=by
 simp only[qg,qn,TD]
 cases qj e x with
 |none=>rfl|some v=>cases v<;>rfl
def TE (op:UnOp)(h:qi)(x:Option AVal):Option br:=match x with
 |some v=>gF h (xn op v)|none=>Eb
theorem j8u {op v}:TE op h (I v)=gF h (xn op v):=rfl
theorem zdr {op x}:qg p xc h0 al e h (.un op x)=TE op h (qj e x):=by
 simp only[qg,qn,TE];cases qj e x<;>rfl
theorem zc1 {b}:xn .not (.bool b)=I (.bool (!b)):=rfl
theorem zcj {k n}:xn .neg (.int k n)=I (.int k (qf k (0-n))):=rfl
def TF (neq:Bool)(h:qi)(x y:Option AVal):Option br:=match x,y with
 |some (.bool a),I (.bool b)=>val h (.bool (bif neq then !(a == b)else a == b))|_,_=>Eb
theorem j4m {neq a b}:TF neq h (I (.bool a)) (I (.bool b))=I ⟨.bool (bif neq then !(a == b)else a == b),Eg,Eb,h⟩:=rfl
theorem zdk {neq x y}:qg p xc h0 al e h (.beq neq x y)=TF neq h (qj e x) (qj e y):=by
 simp only[qg,qn,TF]
 cases qj e x with
 |none=>rfl|some v=>cases v<;>cases qj e y<;>rfl
def TG (f:Fn)(h:qi)(a b:ak AVal):Option br:=match a,b with
 |some a,I b=>val h (.fn f a b)|_,_=>Eb
theorem jtn {f a b}:TG f h (I a) (I b)=I ⟨.fn f a b,Eg,Eb,h⟩:=rfl
theorem j8b {f a b}:qg p xc h0 al e h (.eX f a b)=TG f h (gE e a) (gE e b):=by
 simp only[qg,qn,TG];cases gE e a<;>cases gE e b<;>rfl
def TH (f:AVal->AVal->Option AVal)(h:qi)(l:ak AVal):Option br:=match l with
 |some (v::vs)=>gF h (oz f v vs)|_=>Eb
theorem j8t {f v vs}:TH f h (I (v::vs))=gF h (oz f v vs):=rfl
theorem zdp {l}:qg p xc h0 al e h (.mx l)=TH max2 h (gE e l):=by
 simp only[qg,qn,TH]
 cases gE e l with
 |none=>rfl|some vs=>cases vs<;>rfl
def TI (f:AVal->AVal->Option AVal)(x:Option AVal)(l:List AVal):Option AVal:=match x with
 |some z=>oz f z l|none=>Eb
theorem jzx {f x l}:TI f (I x) l=oz f x l:=rfl
theorem j4d {f x}:oz f x []=I x:=rfl
theorem j0c {f x y l}:oz f x (y::l)=TI f (f x y) l:=by
 simp only[oz,TI];rfl
theorem j9w {k x y}:max2 (.int k x) (.int k y)=I (.int k (max x y)):=by
 simp only[max2,decide_true,cond_true]
 congr 2
 by_cases h:y > x
 .rw[if_pos h];omega
 .rw[if_neg h];omega
def IK (k:Nat)(neq:Bool)(h:qi)(x:Option AVal):Option br:=match k,x with
  |0,I (.list n _ _)=>val h (.bool (bif neq then !n else n))|0,I (.ms ..)=>val h (.bool neq)|1,I .cC=>val h (.bool (!neq))|1,I (.ptr ..)=>val h (.bool neq)|1,I (.aq ..)=>val h (.bool neq)|2,I .cD=>val h (.bool (!neq))|2,I (.map ..)=>val h (.bool neq)|3,I .cO=>val h (.bool (!neq))|3,I (.fn ..)=>val h (.bool neq)|_,_=>Eb
theorem zbp {k neq x}:qg p xc h0 al e h (.fD k neq x)=IK k neq h (qj e x):=rfl
theorem jyz {neq n z xs}:IK 0 neq h (I (.list n z xs))=I ⟨.bool (bif neq then !n else n),Eg,Eb,h⟩:=rfl
theorem j29 {n k i}:below n (.int k i)=En:=rfl
theorem j1o {n b}:below n (.bool b)=En:=rfl
theorem j3e {n s}:below n (.str s)=En:=rfl
theorem jyl {n b z xs}:below n (.list b z xs)=qt n xs:=by simp only[below]
theorem j3w {n xs}:below n (.agg xs)=qt n xs:=by simp only[below]
theorem j2m {n xs}:below n (.bq xs)=qt n xs:=by simp only[below]
theorem j4i {n b o}:below n (.ptr b o)=decide (b<n):=by simp only[below,ur]
theorem j3z {n b}:below n (.map b)=decide (b<n):=by simp only[below,ur]
theorem j5s {n k a b}:below n (.fn (.func k) a b)=(qt n a&&qt n b):=by simp only[below]
theorem jzn {n}:qt n []=En:=by simp only[qt]
theorem jw8 {n x xs}:qt n (x::xs)=(below n x&&qt n xs):=by simp only[qt]
theorem jyr {n i}:below n (zg i)=En:=rfl
theorem jx1 {n z l}:below n (sl z zg l)=En:=uq fun _=>rfl
theorem zb2 {k i}:kr h (.int k i)=I (.int k i):=rfl
theorem j90 {b}:kr h (.bool b)=I (.bool b):=rfl
theorem zcb {s}:kr h (.str s)=I (.str s):=rfl
theorem j6s {b z xs}:kr h (.list b z xs)=I (.list b z xs):=rfl
theorem zck {z:Nat}{f:α->AVal}{l}:kr h (sl z f l)=I (sl z f l):=by cases l<;>rfl
theorem j8e:lW h []=I []:=rfl
theorem j3k {v vs}:lW h (v::vs)=sJ (kr h v) (lW h vs):=by
 simp only[lW,sJ]
 cases kr h v with
 |none=>rfl|some x=>cases lW h vs<;>rfl
def MX (l:ak AVal):Option AVal:=match l with
 |some xs=>I (.agg xs)|none=>Eb
theorem j2g {xs}:MX (I xs)=I (.agg xs):=rfl
theorem TJ {cs}:aV h (.agg cs)=MX (lW h cs):=by
 simp only[aV,MX];cases lW h cs<;>rfl
theorem j88 {k i}:aV h (.int k i)=I (.int k i):=rfl
theorem j4r {b}:aV h (.bool b)=I (.bool b):=rfl
theorem j6r {s}:aV h (.str s)=I (.str s):=rfl
theorem j2d {b z xs}:aV h (.list b z xs)=I (.list b z xs):=rfl
def TK (l:ak AVal):Option AVal:=match l with
 |some xs=>I (.bq xs)|none=>Eb
theorem j3u {xs}:TK (I xs)=I (.bq xs):=rfl
theorem j5v {cs}:aV h (.bq cs)=TK (aV.bP h cs):=by
 simp only[aV,TK];cases aV.bP h cs<;>rfl
theorem j7x:aV.bP h []=I []:=rfl
theorem j9m {cs vs}:aV.bP h (.agg cs::vs)=sJ (MX (lW h cs)) (aV.bP h vs):=by
 rw[aV.bP]
 cases lW h cs with
 |none=>rfl|some x=>cases aV.bP h vs<;>rfl
theorem MY {v vs}(hv:v.isAgg=Eg):aV.bP h (v::vs)=sJ (kr h v) (aV.bP h vs):=by
 have:∀cs,v≠.agg cs:=fun cs hc=>by rw[hc]at hv;cases hv
 rw[aV.bP]
 .cases kr h v with
  |none=>rfl|some x=>cases aV.bP h vs<;>rfl
 .exact this
theorem j6l {k i vs}:aV.bP h (.int k i::vs)=sJ (I (.int k i)) (aV.bP h vs):=MY rfl
theorem j4p {b vs}:aV.bP h (.bool b::vs)=sJ (I (.bool b)) (aV.bP h vs):=MY rfl
theorem zah {s vs}:aV.bP h (.str s::vs)=sJ (I (.str s)) (aV.bP h vs):=MY rfl
theorem j4a {b z xs vs}:aV.bP h (.list b z xs::vs)=sJ (I (.list b z xs)) (aV.bP h vs):=MY rfl
attribute [go_sem] jva j31 j8u zdr zc1 zcj j4m zdk jtn j8b j8t zdp jzx j4d j0c j9w zbp jyz j29 j1o j3e jyl j3w j2m j4i j3z j5s jzn jw8 jyr jx1 zb2 j90 zcb j6s zck j8e j3k j2g TJ j88 j4r j6r j2d j3u j5v j7x j9m j6l j4p zah j4a
attribute [go_sem] List.contains_cons List.contains_nil
theorem zb5 {a b:Nat}:(a == b)=decide (a=b):=by
 by_cases lY:a=b<;>simp[lY]
def IL (agg:Bool)(c:Option (AVal×Bool))(vs:ak AVal):Option (AVal×Bool):=match vs,agg with
 |some vs,En=>I (.agg vs,Eg)|some _,Eg=>c|none,_=>Eb
theorem j3g {c vs}:IL En c (I vs)=I (.agg vs,Eg):=rfl
theorem j4e {c vs}:IL Eg c (I vs)=c:=rfl
def MZ (agg:Bool)(o n:Nat)(cs:Option (List (AVal×Bool))):Option (AVal×Bool):=match cs with
 |some cs=>IL agg cs[o]? (zm cs o n)|none=>Eb
theorem j16 {agg o n cs}:MZ agg o n (I cs)=IL agg cs[o]? (zm cs o n):=rfl
def TL (agg:Bool)(n:Nat)(h:qi)(x:Option (AVal×Bool)):Option (AVal×Bool):=match x with
 |some (.ptr b o,_)=>MZ agg o n (qy h b)|_=>Eb
theorem j34 {agg n b o w}:TL agg n h (I (.ptr b o,w))=MZ agg o n (qy h b):=rfl
theorem jq0 {t n agg}:tR ⟨e,h⟩ (.cell t agg n)=TL agg n h (jm t e):=by
 simp only[tR,TL]
 cases jm t e with
 |none=>rfl
 |some x=>
  obtain⟨v,w⟩:=x
  cases v with
  |ptr b o=>
   simp only[MZ]
   cases qy h b with
   |none=>rfl
   |some cs=>
    simp only[IL]
    cases zm cs o n with
    |none=>rfl
    |some vs=>cases agg with
     |true=>rfl|false=>simp only[cond_false];cases cs[o]?<;>rfl
  |_=>rfl
theorem jo {k args v v' o}(hp:p.di k=Eb)(hc:ai p xc k args []=I (v,o,h))(hz:aV h v=I v')(hv:below 0 v'=En):ae p xc k args=I (v',o&&v.cP):=by
 unfold ae;rw[hp];simp only[hc,hz,lV,hv,cond_true]
end
attribute [go_sem] zb5 j3g j4e j16 j34 jq0
end Go.Abs
