/- Equations of the executor, third part. -/
import Derived.Test.YtfopaakmgogpiaaGreatDoorAbsJ
import Derived.Test.YtfopaakmgogpiaaGreatDoorAbsD
set_option linter.unusedVariables false
set_option linter.unusedSimpArgs false
open List renaming getElem?_eq_some_iff→I,set_eq_take_append_cons_drop→E3,take_of_length_le→E6,drop_eq_getElem_cons→E9,drop_append→Gd,take_append→Ge,drop_zero→Hb,map_take→Hh,map_drop→Hq,length_cons→Ma,append_nil→Mi,map_append→Mj,take_zero→Mn
open Option renaming some→Ef,none→E1
open Nat renaming ble_eq_true_of_le→E0,ble→E7,beq→Gb,blt_eq→Gc,beq_refl→Gm,succ_mul→Gz,blt→Ha
open Bool renaming false→E4,true→Ga,and_self→Gy,true_and→H6,and_eq_true→If,true_or→Mt
namespace Go.Abs
section
variable {p:qt}{xc:XC}{h0:Nat}{al:Option (List Nat)}{e:Env}{h:j8}{α:Type}
def DP {α γ δ:Type}(g:Nat→γ→α→γ⊕δ):Nat→γ→List α→γ⊕δ
 |_,s,[]=>.inl s
 |i,s,x::l=>match g i s x with
  | .inl s'=>DP g (i+1) s' l
  | .inr d=>.inr d
def juk {γ δ:Type}(En:γ→qo×qg)(Ex:δ→qo×qg):γ⊕δ→qo×qg
 | .inl s=>En s
 | .inr d=>Ex d
@[simp] theorem zan {γ δ:Type}{En:γ→qo×qg}{Ex:δ→qo×qg}{s:γ}:juk En Ex (.inl s)=En s:=rfl
@[simp] theorem j92 {γ δ:Type}{En:γ→qo×qg}{Ex:δ→qo×qg}{s:δ}:juk En Ex (.inr s)=Ex s:=rfl
theorem jbd {c:qe}{n:Nat}{r:qo×qg}(hr:r.1≠.normal):DL p c n (Ef r)=Ef r:=by
 obtain⟨x,st⟩:=r
 cases x with
 |normal=>exact absurd rfl hr
 |ret=>rfl
 |exit id=>rfl
theorem jlt {n:Nat}{st:qg}{h':j8}(hn:n=h.length)(hs:st.heap=h++h')(h1:mc n st.env=Ga)(h2:kh n h=Ga):gc n st=⟨st.env,h⟩:=by
 obtain⟨ev,hp⟩:=st
 simp only at hs h1
 subst hs hn
 unfold gc
 cases h' with
 |nil=>simp
 |cons b h'=>
  have hle:E7 (h++b::h').length h.length=E4:=by
   rw[mP];simp
  simp only[hle,cond_false,List.take_left',h1,h2,Gy,cT]
def Ar (h:j8)(x i:Option qa):Option qq:=match x,i with
 |some (.str s),Ef j=>(match idx s.length j with
   |some j=>(match s[j]? with
    |some c=>val h (.int .u8 c.toNat)
    |none=>E1)
   |none=>E1)
 |_,_=>E1
@[go_sem] theorem jyp {x i:qh}:j9 p xc h0 al e h (.dM x i)=Ar h (zc e x) (zc e i):=by
 simp only[j9,zh,Ar]
 cases zc e x with
 |none=>rfl
 |some v=>cases v with
  |str s=>cases zc e i<;>rfl
  |_=>cases zc e i<;>rfl
theorem jbh {s:List UInt8}{k:IntKind}{i:Nat}{c:UInt8}(hc:s[i]?=Ef c):Ar h (Ef (.str s)) (Ef (.int k (i:Int)))=Ef ⟨.int .u8 c.toNat,E4,E1,h⟩:=by
 have hl:i<s.length:=(I.1 hc).1
 have:idx s.length (.int k (i:Int))=Ef i:=by rw[xp,Ud hl]
 simp only[Ar,this,hc,val]
@[go_sem] theorem zja {a b:List UInt8}:fo .eql (.str a) (.str b)=Ef (.bool (decide (a=b))):=by
 by_cases pI:a=b<;>simp[fo,EO,pI]
@[go_sem] theorem zi8 {a b:List UInt8}:fo .neq (.str a) (.str b)=Ef (.bool (!decide (a=b))):=by
 by_cases pI:a=b<;>simp[fo,EO,pI]
def UI (h0 r:Nat)(h:j8)(x:Option qa):Option qq:=match x with
 |some (.str s)=>gS (aJ h0 h r (.iter s 0)) (.ptr (h0+r) 0)
 |_=>E1
@[go_sem] theorem jva {r:Nat}{s:List UInt8}:UI h0 r h (Ef (.str s))=gS (aJ h0 h r (.iter s 0)) (.ptr (h0+r) 0):=rfl
@[go_sem] theorem zf0 {r:Nat}{x:qh}:j9 p xc h0 al e h (.dc r x)=UI h0 r h (zc e x):=by
 simp only[j9,zj,UI]
 cases zc e x with
 |none=>rfl
 |some v=>cases v with
  |str s=>simp only[gS];cases aJ h0 h r (.iter s 0)<;>rfl
  |_=>rfl
def uE (h:j8)(b:Nat)(x:Option qn):Option qq:=match x with
 |some (.iter s pos)=>bif Ha pos s.length then gS (yl h b (.iter s (pos+(zg s pos).2))) (.aB [.bool Ga,.int .i64 pos,.int .i32 (zg s pos).1])else val h (.aB [.bool E4])
 |_=>E1
theorem jh2 {b pos:Nat}{s:List UInt8}(hp:pos<s.length):uE h b (Ef (.iter s pos))=gS (yl h b (.iter s (pos+(zg s pos).2))) (.aB [.bool Ga,.int .i64 pos,.int .i32 (zg s pos).1]):=by
 simp only[uE,uC,hp,decide_true,cT]
theorem jdb {b pos:Nat}{s:List UInt8}(hp:¬pos<s.length):uE h b (Ef (.iter s pos))=Ef ⟨.aB [.bool E4],E4,E1,h⟩:=by
 simp only[uE,uC,hp,decide_false,cond_false,val]
def UJ (h0:Nat)(al:Option (List Nat))(h:j8)(x:Option qa):Option qq:=match x with
 |some (.ptr b 0)=>bT (yv h0 al b) (uE h b h[b]?)
 |_=>E1
@[go_sem] theorem j1z {b:Nat}:UJ h0 al h (Ef (.ptr b 0))=bT (yv h0 al b) (uE h b h[b]?):=rfl
@[go_sem] theorem ziq {x:qh}:j9 p xc h0 al e h (.eR x)=UJ h0 al h (zc e x):=by
 simp only[j9,zj,UJ]
 cases zc e x with
 |none=>rfl
 |some v=>cases v with
  |ptr b o=>
   cases o with
   |succ o=>rfl
   |zero=>
    simp only[bT,y5,uE,gS]
    cases yv h0 al b with
    |false=>rfl
    |true=>
     simp only[cT]
     cases h[b]? with
     |none=>rfl
     |some x=>cases x with
      |iter s pos=>
       simp only[]
       cases Ha pos s.length with
       |false=>rfl
       |true=>simp only[cT];cases yl h b (.iter s (pos+(zg s pos).2))<;>rfl
      |_=>rfl
  |_=>rfl
theorem jcp {s:List UInt8}{i:Nat}{c:UInt8}(hc:s[i]?=Ef c)(hl:c.toNat<128):zg s i=(c.toNat,1):=by
 have hg:(ByteArray.get! ⟨⟨s⟩⟩ (i+0))=c:=by
  obtain⟨h1,h2⟩:=I.1 hc
  simp[ByteArray.get!,h1,h2]
 simp only[zg,Utf8.decode,hg,hl,if_true]
theorem jcc {s:List UInt8}{i:Nat}{c:UInt8}(hc:s[i]?=Ef c)(hl:¬c.toNat<128):128≤(zg s i).1:=by
 have hg:(ByteArray.get! ⟨⟨s⟩⟩ (i+0))=c:=by
  obtain⟨h1,h2⟩:=I.1 hc
  simp[ByteArray.get!,h1,h2]
 simp only[zg,Utf8.decode,hg,hl,if_false,Utf8.runeError]
 split
 ·split<;>simp<;>omega
 ·split
  ·split
   ·next hh=>simp only[If,decide_eq_true_eq]at hh;simp only;omega
   ·decide
  ·split
   ·split
    ·next hh=>simp only[If,decide_eq_true_eq]at hh;simp only;omega
    ·decide
   ·decide
def vE (h:j8)(zero:qa)(r:Option (Option (Nat×qa))):Option qq:=match r with
 |some (Ef (_,v))=>val h v
 |some E1=>val h zero
 |none=>E1
@[go_sem] theorem j5u {z v:qa}{i:Nat}:vE h z (Ef (Ef (i,v)))=Ef ⟨v,E4,E1,h⟩:=rfl
@[go_sem] theorem j2d {z:qa}:vE h z (Ef E1)=Ef ⟨z,E4,E1,h⟩:=rfl
def Na (h:j8)(kd:Kd)(z kv:qa)(x:Option qn):Option qq:=match x with
 |some (.map es)=>vE h z (yx kd kv es 0)
 |_=>E1
@[go_sem] theorem j8u {kd:Kd}{z kv:qa}{es:List (qa×qa)}:Na h kd z kv (Ef (.map es))=vE h z (yx kd kv es 0):=rfl
def UK (h0:Nat)(al:Option (List Nat))(h:j8)(kd:Kd)(z:qa)(m k:Option qa):Option qq:=match m,k with
 |some (.map b),Ef kv=>bT (yv h0 al b) (Na h kd z kv h[b]?)
 |some .bN,Ef _=>val h z
 |_,_=>E1
@[go_sem] theorem jwd {kd:Kd}{z kv:qa}{b:Nat}:UK h0 al h kd z (Ef (.map b)) (Ef kv)=bT (yv h0 al b) (Na h kd z kv h[b]?):=rfl
@[go_sem] theorem zcp {kd:Kd}{z:qa}{m k:qh}:j9 p xc h0 al e h (.lookup kd z E4 m k)=UK h0 al h kd z (zc e m) (zc e k):=by
 simp only[j9,gW,UK]
 cases zc e m with
 |none=>cases zc e k<;>rfl
 |some v=>cases zc e k with
  |none=>cases v<;>rfl
  |some kv=>cases v with
   |map b=>
    simp only[bT,y5,Na,vE]
    cases yv h0 al b with
    |false=>rfl
    |true=>
     simp only[cT]
     cases h[b]? with
     |none=>rfl
     |some x=>cases x with
      |map es=>
       simp only[]
       cases yx kd kv es 0 with
       |none=>rfl
       |some r=>cases r<;>rfl
      |_=>rfl
   |_=>rfl
def DQ (h:j8)(b:Nat)(es:List (qa×qa))(kv v:qa)(r:Option (Option (Nat×qa))):Option qq:=match r with
 |some (Ef (i,_))=>gS (yl h b (.map (pG es i v))) .undef
 |some E1=>bT (E7 es.length 1073741824) (gS (yl h b (.map (es++[(kv,v)]))) .undef)
 |none=>E1
@[go_sem] theorem j7q {b:Nat}{es:List (qa×qa)}{kv v:qa}:DQ h b es kv v (Ef E1)=bT (E7 es.length 1073741824) (gS (yl h b (.map (es++[(kv,v)]))) .undef):=rfl
def Nb (h:j8)(b:Nat)(kd:Kd)(kv v:qa)(x:Option qn):Option qq:=match x with
 |some (.map es)=>DQ h b es kv v (yx kd kv es 0)
 |_=>E1
@[go_sem] theorem zgk {b:Nat}{kd:Kd}{kv v:qa}{es:List (qa×qa)}:Nb h b kd kv v (Ef (.map es))=DQ h b es kv v (yx kd kv es 0):=rfl
def UL (h0:Nat)(al:Option (List Nat))(h:j8)(kd:Kd)(m k x:Option qa):Option qq:=match m,k,x with
 |some (.map b),Ef kv,Ef v=>bT (yv h0 al b) (Nb h b kd kv v h[b]?)
 |_,_,_=>E1
@[go_sem] theorem zbg {b:Nat}{kd:Kd}{kv v:qa}:UL h0 al h kd (Ef (.map b)) (Ef kv) (Ef v)=bT (yv h0 al b) (Nb h b kd kv v h[b]?):=rfl
@[go_sem] theorem jvl {kd:Kd}{m k x:qh}:j9 p xc h0 al e h (.mapUpdate kd m k x)=UL h0 al h kd (zc e m) (zc e k) (zc e x):=by
 simp only[j9,zj,UL]
 cases zc e m with
 |none=>cases zc e k<;>cases zc e x<;>rfl
 |some v=>cases zc e k with
  |none=>cases v<;>cases zc e x<;>rfl
  |some kv=>cases zc e x with
   |none=>cases v<;>rfl
   |some xv=>cases v with
    |map b=>
     simp only[bT,y5,Nb,DQ,gS]
     cases yv h0 al b with
     |false=>rfl
     |true=>
      simp only[cT]
      cases h[b]? with
      |none=>rfl
      |some x=>cases x with
       |map es=>
        simp only[]
        cases yx kd kv es 0 with
        |none=>rfl
        |some r=>cases r with
         |none=>
          simp only[]
          cases E7 es.length 1073741824 with
          |false=>rfl
          |true=>simp only[cT];cases yl h b (.map (es++[(kv,xv)]))<;>rfl
         |some r=>simp only[];cases yl h b (.map (pG es r.1 xv))<;>rfl
       |_=>rfl
    |_=>rfl
def jdf (agg:Bool)(len sz:Nat)(h:j8)(x i:Option qa):Option qq:=match x,i with
  |some (.ptr b o),Ef j=>(match idx len j with
   |some j=>val h (.ptr b (o+j*sz))
   |none=>E1)
  |some (.ah (.agg cs)),Ef j=>(match idx len j with
   |some j=>(match part agg cs (j*sz) sz with
    |some v=>bif Bool.xor agg v.isAgg then E1 else val h (.ah v)
    |none=>E1)
   |none=>E1)
  |_,_=>E1
@[go_sem] theorem j3j {agg:Bool}{len sz:Nat}{x i:qh}:j9 p xc h0 al e h (.dN agg len sz x i)=jdf agg len sz h (zc e x) (zc e i):=rfl
end
section
variable {p:qt}{xc:XC}{h0:Nat}{al:Option (List Nat)}{e:Env}{h:j8}{α:Type}
@[go_sem] theorem js7 {n s v:Nat}{xs:List qa}:oS n (.vec s v xs)=Ga:=rfl
@[go_sem] theorem qvi {n b v k:Nat}:below n (.ak b v k)=decide (b<n):=by
 simp only[below]
 cases hb:Ha b n with
 |true=>simp[Gc.mp hb]
 |false=>
  have:¬b<n:=fun h=>by rw[Gc.mpr h]at hb;cases hb
  simp[this]
def yw (f:α→qa)(l:List α):List qa:=(l.map f).flatMap qa.flat
theorem j8p {f:α→qa}:yw f []=[]:=rfl
theorem vF {f:α→qa}{x:α}{l:List α}:yw f (x::l)=(f x).flat++yw f l:=rfl
theorem q3t {f:α→qa}{l m:List α}:yw f (l++m)=yw f l++yw f m:=by simp[yw]
theorem Gx {f:α→qa}{sz:Nat}(hf:∀x,(f x).flat.length=sz)(l:List α):(yw f l).length=l.length*sz:=by
 induction l with
 |nil=>simp[yw]
 |cons x l ih=>rw[vF,List.length_append,hf,ih,Ma,Gz];omega
theorem qx6 {f:α→qa}{sz:Nat}(hf:∀x,(f x).flat.length=sz):∀ {l:List α} {i:Nat},(yw f l).drop (i*sz)=yw f (l.drop i)
 | [],i=>by simp[yw]
 |x::l,0=>by simp
 |x::l,i+1=>by
  rw[vF,List.drop_succ_cons,←qx6 hf,show(i+1)*sz=(f x).flat.length+i*sz by rw[hf,Gz];omega,Gd]
  simp
theorem q80 {f:α→qa}{sz:Nat}(hf:∀x,(f x).flat.length=sz):∀ {l:List α} {i:Nat},(yw f l).take (i*sz)=yw f (l.take i)
 | [],i=>by simp[yw]
 |x::l,0=>by simp[yw]
 |x::l,i+1=>by
  rw[vF,List.take_succ_cons,vF,←q80 hf,show(i+1)*sz=(f x).flat.length+i*sz by rw[hf,Gz];omega,Ge]
  congr 1
  ·exact E6 (by omega)
  ·congr 1;omega
theorem ji3 {f:α→qa}{sz i:Nat}{l:List α}{x:α}(hf:∀x,(f x).flat.length=sz)(hx:l[i]?=Ef x):(yw f l).drop (i*sz)=(f x).flat++yw f (l.drop (i+1)):=by
 rw[qx6 hf]
 have aY:=(I.1 hx).1
 rw[E9 aY,vF,(I.1 hx).2]
theorem DR {f:α→qa}{sz i o n:Nat}{l:List α}{x:α}(hf:∀x,(f x).flat.length=sz)(hx:l[i]?=Ef x)(ho:o+n≤sz):((yw f l).drop (i*sz+o)).take n=((f x).flat.drop o).take n∧i*sz+o+n≤(yw f l).length:=by
 have aY:=(I.1 hx).1
 refine⟨?_,?_⟩
 ·rw[←List.drop_drop,ji3 hf hx,Gd,Ge]
  have h1:(f x).flat.length=sz:=hf x
  have h2:n-((f x).flat.drop o).length=0:=by rw[List.length_drop];omega
  rw[h2,Mn,Mi]
 ·rw[Gx hf]
  have:(i+1)*sz≤l.length*sz:=Nat.mul_le_mul_right _ aY
  rw[Gz]at this
  omega
theorem q0k {f:α→qa}{sz i o:Nat}{l:List α}{x y:α}{us:List qa}(hf:∀x,(f x).flat.length=sz)(hx:l[i]?=Ef x)(ho:o+us.length≤sz)(hy:(f y).flat=(f x).flat.take o++us++(f x).flat.drop (o+us.length)):
  (yw f l).take (i*sz+o)++us++(yw f l).drop (i*sz+o+us.length)=yw f (l.set i y):=by
 have aY:=(I.1 hx).1
 have As:l=l.take i++x::l.drop (i+1):=by
  conv=>lhs;rw[←List.take_append_drop i l,E9 aY,(I.1 hx).2]
 have bq:l.set i y=l.take i++y::l.drop (i+1):=by rw[E3,if_pos aY]
 have hl:(yw f (l.take i)).length=i*sz:=by rw[Gx hf,List.length_take,Nat.min_eq_left (by omega)]
 have h1:(f x).flat.length=sz:=hf x
 rw[bq]
 conv=>lhs;rw[As]
 simp only[q3t,vF]
 rw[hy,Ge,Gd,hl]
 have e1:(yw f (l.take i)).take (i*sz+o)=yw f (l.take i):=E6 (by omega)
 have e2:(yw f (l.take i)).drop (i*sz+o+us.length)=[]:=List.drop_eq_nil_of_le (by omega)
 rw[e1,e2,List.nil_append,show i*sz+o-i*sz=o by omega,show i*sz+o+us.length-i*sz=o+us.length by omega,Ge,Gd]
 have e3:o-(f x).flat.length=0:=by omega
 have e4:o+us.length-(f x).flat.length=0:=by omega
 rw[e3,e4,Mn,Hb,Mi]
 simp[List.append_assoc]
def bB (f:α→qa)(l:List α):List (qa×Bool):=cellsOf (yw f l)
theorem kx {vs:List qa}:(cellsOf vs).map (·.1)=vs:=by
 induction vs with
 |nil=>rfl
 |cons v vs ih=>simp only[cellsOf,List.map_cons]at ih ⊢;rw[ih]
theorem j2l {f:α→qa}{sz:Nat}(hf:∀x,(f x).flat.length=sz)(l:List α):(bB f l).length=l.length*sz:=by simp[bB,cellsOf,Gx hf]
theorem uF {f:α→qa}{sz i o n:Nat}{l:List α}{x:α}(hf:∀x,(f x).flat.length=sz)(hx:l[i]?=Ef x)(ho:o+n≤sz):y8 (bB f l) (i*sz+o) n=Ef (((f x).flat.drop o).take n):=by
 obtain⟨h1,h2⟩:=DR hf hx ho
 unfold y8
 have:(bB f l).length=(yw f l).length:=by simp[bB,cellsOf]
 rw[this,E0 h2]
 simp only[cT,Ef.injEq]
 rw[←h1]
 simp only[bB,Hh,Hq,kx]
theorem zin {f:α→qa}{sz i:Nat}{l:List α}{x:α}(hf:∀x,(f x).flat.length=sz)(hx:l[i]?=Ef x):y8 (bB f l) (i*sz) sz=Ef (f x).flat:=by
 have:=uF (o:=0) (n:=sz) hf hx (by omega)
 rw[Nat.add_zero,Hb,E6 (by rw[hf];exact Nat.le_refl _)]at this
 exact this
theorem l0 {f:α→qa}{sz i o:Nat}{l:List α}{x y:α}{us:List qa}(hf:∀x,(f x).flat.length=sz)(hx:l[i]?=Ef x)(ho:o+us.length≤sz)(hs:us.all ze=Ga)(hy:(f y).flat=(f x).flat.take o++us++(f x).flat.drop (o+us.length)):
  yh (bB f l) (i*sz+o) us=Ef (bB f (l.set i y)):=by
 obtain⟨_,h2⟩:=DR hf hx ho
 unfold yh
 have:(bB f l).length=(yw f l).length:=by simp[bB,cellsOf]
 rw[this,E0 h2,hs]
 simp only[Gy,cT,Ef.injEq]
 rw[show bB f (l.set i y)=cellsOf (yw f (l.set i y))from rfl,←q0k hf hx ho hy]
 simp[bB,cellsOf,Mj,Hh,Hq]
theorem q5l {f:α→qa}{sz i o:Nat}{l:List α}{x y:α}{u:qa}(hf:∀x,(f x).flat.length=sz)(hx:l[i]?=Ef x)(ho:o<sz)(hy:(f y).flat=(f x).flat.set o u):(bB f l).set (i*sz+o) (u,E4)=bB f (l.set i y):=by
 have hl:(f x).flat.length=sz:=hf x
 have h2:=(DR (n:=1) (o:=o) hf hx (by omega)).2
 have:=q0k (us:=[u]) (y:=y) (o:=o) hf hx (by simp;omega) (by rw[hy,E3,if_pos (show o<(f x).flat.length by omega)];simp)
 rw[show bB f (l.set i y)=cellsOf (yw f (l.set i y))from rfl,←this]
 simp only[bB,cellsOf,Ma,List.length_nil]
 rw[E3,if_pos (by simp;omega)]
 simp[Mj,Hh,Hq]
theorem jwe {f:α→qa}{sz i o n b v:Nat}{l:List α}{x:α}(hf:∀x,(f x).flat.length=sz)(hb:h[b]?=Ef (.vec sz v (l.map f)))(og:tW h0 al b=Ga)(hx:l[i]?=Ef x)(ho:o+n≤sz):
  eH h0 al Ga n h (Ef (.cJ b v (i*sz+o)))=Ef ⟨.agg (((f x).flat.drop o).take n),E4,E1,h⟩:=by
 obtain⟨h1,h2⟩:=DR hf hx ho
 have hg:y5 h b=Ef (.vec sz v (l.map f)):=hb
 show(bif tW h0 al b then(match y5 h b with
   |some (.vec _ df xs)=>bif Gb v df&&E7 (i*sz+o+n) (xs.flatMap qa.flat).length then(bif Ga then val h (.agg (((xs.flatMap qa.flat).drop (i*sz+o)).take n))else(match((xs.flatMap qa.flat).drop (i*sz+o)).take n with
     | [v]=>val h v
     |_=>E1))else E1
   |_=>E1)else E1)=_
 rw[og,hg]
 simp only[cT,Gm,H6]
 have h3:E7 (i*sz+o+n) ((l.map f).flatMap qa.flat).length=Ga:=E0 h2
 rw[h3]
 simp only[cT,val]
 have h4:(((l.map f).flatMap qa.flat).drop (i*sz+o)).take n=((f x).flat.drop o).take n:=h1
 rw[h4]
theorem Nc {f:α→qa}{sz i b v:Nat}{l:List α}{x:α}(hf:∀x,(f x).flat.length=sz)(hb:h[b]?=Ef (.vec sz v (l.map f)))(og:tW h0 al b=Ga)(hx:l[i]?=Ef x):
  eH h0 al Ga sz h (Ef (.cJ b v (i*sz)))=Ef ⟨.agg (f x).flat,E4,E1,h⟩:=by
 have:=jwe (al:=al) (h0:=h0) (o:=0) (n:=sz) hf hb og hx (by omega)
 rw[Nat.add_zero,Hb,E6 (by rw[hf];exact Nat.le_refl _)]at this
 exact this
theorem UM {f:α→qa}{sz i o b v:Nat}{l:List α}{x:α}{u:qa}(hf:∀x,(f x).flat.length=sz)(hb:h[b]?=Ef (.vec sz v (l.map f)))(og:tW h0 al b=Ga)(hx:l[i]?=Ef x)(hu:(f x).flat[o]?=Ef u):
  eH h0 al E4 1 h (Ef (.cJ b v (i*sz+o)))=Ef ⟨u,E4,E1,h⟩:=by
 have aY:=(I.1 hu).1
 rw[hf]at aY
 obtain⟨h1,h2⟩:=DR (n:=1) hf hx (by omega:o+1≤sz)
 have hg:y5 h b=Ef (.vec sz v (l.map f)):=hb
 show(bif tW h0 al b then(match y5 h b with
   |some (.vec _ df xs)=>bif Gb v df&&E7 (i*sz+o+1) (xs.flatMap qa.flat).length then(bif E4 then val h (.agg (((xs.flatMap qa.flat).drop (i*sz+o)).take 1))else(match((xs.flatMap qa.flat).drop (i*sz+o)).take 1 with
     | [v]=>val h v
     |_=>E1))else E1
   |_=>E1)else E1)=_
 rw[og,hg]
 simp only[cT,Gm,H6]
 have h3:E7 (i*sz+o+1) ((l.map f).flatMap qa.flat).length=Ga:=E0 h2
 have h4:(((l.map f).flatMap qa.flat).drop (i*sz+o)).take 1=[u]:=by
  show((yw f l).drop (i*sz+o)).take 1=[u]
  have So:=(I.1 hu).1
  rw[h1,E9 So,(I.1 hu).2]
  rfl
 rw[h3,h4]
 rfl
def gi (h0:Nat)(r sz bytes:Nat)(h:j8)(x y:Option qa):Option qq:=match x,y with
 |some (.list Ga _ []),Ef vy=>(match kj sz vy with
   |some ys=>
    bif E7 ys.length 1073741824&&E7 bytes 4096&&Ha 0 sz&&!ys.isEmpty&&zu 0 ys&&Ha r 1000 then
     (match aJ h0 h r (.vec sz 0 ys)with
      |some h'=>val h' (.ak (h0+r) 0 ys.length)
      |none=>E1)else E1
   |none=>E1)
 |some (.ak b bz len),Ef vy=>(match y5 h b with
  |some (.vec cK df xs)=>(match kj sz vy with
   |some ys=>
    bif Gb bz df&&Gb sz cK&&E7 len xs.length&&E7 (len+ys.length) 1073741824&&E7 bytes 4096&&Ha 0 sz&&zu 0 ys&&Ha r 1000 then
     (match yl h b (.vec sz (bz+1) (xs.take len++ys))with
      |some h'=>val h' (.ak b (bz+1) (len+ys.length))
      |none=>E1)else E1
   |none=>E1)
  |_=>E1)
 |_,_=>E1
@[go_sem] theorem zjq {r sz bytes:Nat}{x y:qh}:j9 p xc h0 al e h (.gH r sz bytes x y)=gi h0 r sz bytes h (zc e x) (zc e y):=rfl
theorem DS {r sz z bytes:Nat}{ys:List qa}{b:Bool}{h':j8}(hl:ys.length≤1073741824)(hb:bytes≤4096)(hz:0<sz)(bA:ys≠[])(hp:zu 0 ys=Ga)(hr:r<1000)(hn:aJ h0 h r (.vec sz 0 ys)=Ef h'):gi h0 r sz bytes h (Ef (.list Ga z [])) (Ef (.list b sz ys))=Ef ⟨.ak (h0+r) 0 ys.length,E4,E1,h'⟩:=by
 have h5:ys.isEmpty=E4:=by cases ys<;>simp at bA ⊢
 simp only[gi,kj,Gm,Mt,cT,E0 hl,E0 hb,Gc.mpr hz,h5,hp,Gc.mpr hr,Bool.not_false,Gy,hn]
 rfl
theorem jb3 {r sz bytes b v len:Nat}{xs ys:List qa}{c:Bool}(gd:h[b]?=Ef (.vec sz v xs))(hlen:len≤xs.length)(hl:len+ys.length≤1073741824)(hb:bytes≤4096)(hz:0<sz)(hp:zu 0 ys=Ga)(hr:r<1000):
  gi h0 r sz bytes h (Ef (.ak b v len)) (Ef (.list c sz ys))=Ef ⟨.ak b (v+1) (len+ys.length),E4,E1,h.set b (.vec sz (v+1) (xs.take len++ys))⟩:=by
 have hg:y5 h b=Ef (.vec sz v xs):=gd
 have aY:=(I.1 gd).1
 simp only[gi,hg,kj,Gm,Mt,cT,E0 hlen,E0 hl,E0 hb,Gc.mpr hz,hp,Gc.mpr hr,Gy,yl,Gc.mpr aY]
 rfl
theorem jch {sz b v len i:Nat}{k:IntKind}(hi:i<len):gE sz h (Ef (.ak b v len)) (Ef (.int k (i:Int)))=Ef ⟨.cJ b v (i*sz),E4,E1,h⟩:=by
 have:idx len (.int k (i:Int))=Ef i:=by rw[xp];exact Ud hi
 simp only[gE,this]
 rfl
@[go_sem] theorem zg0 {n:Nat}:j9 p xc h0 al e h (.fU n)=Ef ⟨.cE n,Ga,E1,h⟩:=rfl
def Nd (n:Nat)(h:j8)(x:Option (qa×Bool))(y:Option qa):Option qq:=match x,y with
 |some (.cE m,Ga),Ef v=>bT (Gb m n&&Gb v.flat.length n&&v.flat.all ze) (Ef ⟨.ah v,E4,E1,h⟩)
 |_,_=>E1
theorem q18 {n m:Nat}{v:qa}:Nd n h (Ef (.cE m,Ga)) (Ef v)=bT (Gb m n&&Gb v.flat.length n&&v.flat.all ze) (Ef ⟨.ah v,E4,E1,h⟩):=rfl
@[go_sem] theorem j7p {n:Nat}{v:qa}(hv:(Gb v.flat.length n&&v.flat.all ze)=Ga):Nd n h (Ef (.cE n,Ga)) (Ef v)=Ef ⟨.ah v,E4,E1,h⟩:=by
 rw[q18,Gm,H6,hv];rfl
@[go_sem] theorem ze8 {n s:Nat}{x:qh}:j9 p xc h0 al e h (.dw n s x)=Nd n h (yd s e) (zc e x):=by
 simp only[j9,zh,Nd]
 split
 ·rename_i m v h1 h2
  rw[h1,h2]
  simp only[bT]
  cases (Gb m n&&Gb v.flat.length n&&v.flat.all ze)<;>rfl
 ·rename_i FX
  split
  ·rename_i m v h1 h2
   exact absurd h2 (FX m v h1)
  ·rfl
end
end Go.Abs
