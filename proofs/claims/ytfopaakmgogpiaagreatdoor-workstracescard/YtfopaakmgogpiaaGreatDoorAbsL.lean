/- Equations of the executor, third part. -/
import Derived.Test.YtfopaakmgogpiaaGreatDoorAbsJ
set_option linter.unusedVariables false
set_option linter.unusedSimpArgs false
open List renaming getElem?_eq_some_iff→I,set_eq_take_append_cons_drop→Ev,take_of_length_le→E6,drop_eq_getElem_cons→Ga,drop_append→Gi,take_append→Gk,drop_zero→Gx,map_take→Ha,map_drop→Hb,length_cons→If,append_nil→Ip,map_append→Iu,take_zero→I6
open Option renaming some→Eh,none→Eo
open Nat renaming ble_eq_true_of_le→El,ble→E7,beq→Gc,blt_eq→Gh,beq_refl→Gl,succ_mul→Gn,blt→Gp
open Bool renaming false→E5,true→Gb,and_self→Gm,true_and→Ht,and_eq_true→Hv,true_or→I7
namespace Go.Abs
section
variable {p:qr}{xc:XC}{h0:Nat}{al:Option (List Nat)}{e:Env}{h:j8}{α:Type}
def DT {α γ δ:Type}(g:Nat→γ→α→γ⊕δ):Nat→γ→List α→γ⊕δ
 |_,s,[]=>.inl s
 |i,s,x::l=>match g i s x with
  | .inl s'=>DT g (i+1) s' l
  | .inr d=>.inr d
def juc {γ δ:Type}(En:γ→qo×qh)(Ex:δ→qo×qh):γ⊕δ→qo×qh
 | .inl s=>En s
 | .inr d=>Ex d
@[simp] theorem zgu {γ δ:Type}{En:γ→qo×qh}{Ex:δ→qo×qh}{s:γ}:juc En Ex (.inl s)=En s:=rfl
@[simp] theorem j9w {γ δ:Type}{En:γ→qo×qh}{Ex:δ→qo×qh}{s:δ}:juc En Ex (.inr s)=Ex s:=rfl
theorem ja9 {c:qg}{n:Nat}{r:qo×qh}(hr:r.1≠.normal):DQ p c n (Eh r)=Eh r:=by
 obtain⟨x,st⟩:=r
 cases x with
 |normal=>exact absurd rfl hr
 |ret=>rfl
 |exit id=>rfl
theorem jl9 {n:Nat}{st:qh}{h':j8}(hn:n=h.length)(hs:st.heap=h++h')(h1:mf n st.env=Gb)(h2:ko n h=Gb):gc n st=⟨st.env,h⟩:=by
 obtain⟨ev,hp⟩:=st
 simp only at hs h1
 subst hs hn
 unfold gc
 cases h' with
 |nil=>simp
 |cons b h'=>
  have hle:E7 (h++b::h').length h.length=E5:=by
   rw[mQ];simp
  simp only[hle,cond_false,List.take_left',h1,h2,Gm,cT]
def AA (h:j8)(x i:Option qa):Option qq:=match x,i with
 |some (.str s),Eh j=>(match idx s.length j with
   |some j=>(match s[j]? with
    |some c=>val h (.int .u8 c.toNat)
    |none=>Eo)
   |none=>Eo)
 |_,_=>Eo
@[go_sem] theorem j06 {x i:qf}:za p xc h0 al e h (.dO x i)=AA h (zd e x) (zd e i):=by
 simp only[za,zi,AA]
 cases zd e x with
 |none=>rfl
 |some v=>cases v with
  |str s=>cases zd e i<;>rfl
  |_=>cases zd e i<;>rfl
theorem jb1 {s:List UInt8}{k:IntKind}{i:Nat}{c:UInt8}(hc:s[i]?=Eh c):AA h (Eh (.str s)) (Eh (.int k (i:Int)))=Eh ⟨.int .u8 c.toNat,E5,Eo,h⟩:=by
 have hl:i<s.length:=(I.1 hc).1
 have:idx s.length (.int k (i:Int))=Eh i:=by rw[xF,Ud hl]
 simp only[AA,this,hc,val]
@[go_sem] theorem zh7 {a b:List UInt8}:fo .eql (.str a) (.str b)=Eh (.bool (decide (a=b))):=by
 by_cases pI:a=b<;>simp[fo,EX,pI]
@[go_sem] theorem zh6 {a b:List UInt8}:fo .neq (.str a) (.str b)=Eh (.bool (!decide (a=b))):=by
 by_cases pI:a=b<;>simp[fo,EX,pI]
def UI (h0 r:Nat)(h:j8)(x:Option qa):Option qq:=match x with
 |some (.str s)=>gV (aI h0 h r (.iter s 0)) (.ptr (h0+r) 0)
 |_=>Eo
@[go_sem] theorem ju0 {r:Nat}{s:List UInt8}:UI h0 r h (Eh (.str s))=gV (aI h0 h r (.iter s 0)) (.ptr (h0+r) 0):=rfl
@[go_sem] theorem zag {r:Nat}{x:qf}:za p xc h0 al e h (.cZ r x)=UI h0 r h (zd e x):=by
 simp only[za,zk,UI]
 cases zd e x with
 |none=>rfl
 |some v=>cases v with
  |str s=>simp only[gV];cases aI h0 h r (.iter s 0)<;>rfl
  |_=>rfl
def uL (h:j8)(b:Nat)(x:Option qm):Option qq:=match x with
 |some (.iter s pos)=>bif Gp pos s.length then gV (yj h b (.iter s (pos+(zf s pos).2))) (.az [.bool Gb,.int .i64 pos,.int .i32 (zf s pos).1])else val h (.az [.bool E5])
 |_=>Eo
theorem jc6 {b pos:Nat}{s:List UInt8}(hp:pos<s.length):uL h b (Eh (.iter s pos))=gV (yj h b (.iter s (pos+(zf s pos).2))) (.az [.bool Gb,.int .i64 pos,.int .i32 (zf s pos).1]):=by
 simp only[uL,uJ,hp,decide_true,cT]
theorem jbu {b pos:Nat}{s:List UInt8}(hp:¬pos<s.length):uL h b (Eh (.iter s pos))=Eh ⟨.az [.bool E5],E5,Eo,h⟩:=by
 simp only[uL,uJ,hp,decide_false,cond_false,val]
def UJ (h0:Nat)(al:Option (List Nat))(h:j8)(x:Option qa):Option qq:=match x with
 |some (.ptr b 0)=>bT (yw h0 al b) (uL h b h[b]?)
 |_=>Eo
@[go_sem] theorem j1v {b:Nat}:UJ h0 al h (Eh (.ptr b 0))=bT (yw h0 al b) (uL h b h[b]?):=rfl
@[go_sem] theorem ziy {x:qf}:za p xc h0 al e h (.eV x)=UJ h0 al h (zd e x):=by
 simp only[za,zk,UJ]
 cases zd e x with
 |none=>rfl
 |some v=>cases v with
  |ptr b o=>
   cases o with
   |succ o=>rfl
   |zero=>
    simp only[bT,y7,uL,gV]
    cases yw h0 al b with
    |false=>rfl
    |true=>
     simp only[cT]
     cases h[b]? with
     |none=>rfl
     |some x=>cases x with
      |iter s pos=>
       simp only[]
       cases Gp pos s.length with
       |false=>rfl
       |true=>simp only[cT];cases yj h b (.iter s (pos+(zf s pos).2))<;>rfl
      |_=>rfl
  |_=>rfl
theorem jav {s:List UInt8}{i:Nat}{c:UInt8}(hc:s[i]?=Eh c)(hl:c.toNat<128):zf s i=(c.toNat,1):=by
 have hg:(ByteArray.get! ⟨⟨s⟩⟩ (i+0))=c:=by
  obtain⟨h1,h2⟩:=I.1 hc
  simp[ByteArray.get!,h1,h2]
 simp only[zf,Utf8.decode,hg,hl,if_true]
theorem jaw {s:List UInt8}{i:Nat}{c:UInt8}(hc:s[i]?=Eh c)(hl:¬c.toNat<128):128≤(zf s i).1:=by
 have hg:(ByteArray.get! ⟨⟨s⟩⟩ (i+0))=c:=by
  obtain⟨h1,h2⟩:=I.1 hc
  simp[ByteArray.get!,h1,h2]
 simp only[zf,Utf8.decode,hg,hl,if_false,Utf8.runeError]
 split
 ·split<;>simp<;>omega
 ·split
  ·split
   ·next hh=>simp only[Hv,decide_eq_true_eq]at hh;simp only;omega
   ·decide
  ·split
   ·split
    ·next hh=>simp only[Hv,decide_eq_true_eq]at hh;simp only;omega
    ·decide
   ·decide
def vR (h:j8)(zero:qa)(r:Option (Option (Nat×qa))):Option qq:=match r with
 |some (Eh (_,v))=>val h v
 |some Eo=>val h zero
 |none=>Eo
@[go_sem] theorem j09 {z v:qa}{i:Nat}:vR h z (Eh (Eh (i,v)))=Eh ⟨v,E5,Eo,h⟩:=rfl
@[go_sem] theorem jy0 {z:qa}:vR h z (Eh Eo)=Eh ⟨z,E5,Eo,h⟩:=rfl
def Nn (h:j8)(kd:Kd)(z kv:qa)(x:Option qm):Option qq:=match x with
 |some (.map es)=>vR h z (yz kd kv es 0)
 |_=>Eo
@[go_sem] theorem j7x {kd:Kd}{z kv:qa}{es:List (qa×qa)}:Nn h kd z kv (Eh (.map es))=vR h z (yz kd kv es 0):=rfl
def UK (h0:Nat)(al:Option (List Nat))(h:j8)(kd:Kd)(z:qa)(m k:Option qa):Option qq:=match m,k with
 |some (.map b),Eh kv=>bT (yw h0 al b) (Nn h kd z kv h[b]?)
 |some .bM,Eh _=>val h z
 |_,_=>Eo
@[go_sem] theorem jur {kd:Kd}{z kv:qa}{b:Nat}:UK h0 al h kd z (Eh (.map b)) (Eh kv)=bT (yw h0 al b) (Nn h kd z kv h[b]?):=rfl
@[go_sem] theorem zbx {kd:Kd}{z:qa}{m k:qf}:za p xc h0 al e h (.lookup kd z E5 m k)=UK h0 al h kd z (zd e m) (zd e k):=by
 simp only[za,gZ,UK]
 cases zd e m with
 |none=>cases zd e k<;>rfl
 |some v=>cases zd e k with
  |none=>cases v<;>rfl
  |some kv=>cases v with
   |map b=>
    simp only[bT,y7,Nn,vR]
    cases yw h0 al b with
    |false=>rfl
    |true=>
     simp only[cT]
     cases h[b]? with
     |none=>rfl
     |some x=>cases x with
      |map es=>
       simp only[]
       cases yz kd kv es 0 with
       |none=>rfl
       |some r=>cases r<;>rfl
      |_=>rfl
   |_=>rfl
def DU (h:j8)(b:Nat)(es:List (qa×qa))(kv v:qa)(r:Option (Option (Nat×qa))):Option qq:=match r with
 |some (Eh (i,_))=>gV (yj h b (.map (pG es i v))) .undef
 |some Eo=>bT (E7 es.length 1073741824) (gV (yj h b (.map (es++[(kv,v)]))) .undef)
 |none=>Eo
@[go_sem] theorem j7n {b:Nat}{es:List (qa×qa)}{kv v:qa}:DU h b es kv v (Eh Eo)=bT (E7 es.length 1073741824) (gV (yj h b (.map (es++[(kv,v)]))) .undef):=rfl
def Np (h:j8)(b:Nat)(kd:Kd)(kv v:qa)(x:Option qm):Option qq:=match x with
 |some (.map es)=>DU h b es kv v (yz kd kv es 0)
 |_=>Eo
@[go_sem] theorem zfr {b:Nat}{kd:Kd}{kv v:qa}{es:List (qa×qa)}:Np h b kd kv v (Eh (.map es))=DU h b es kv v (yz kd kv es 0):=rfl
def UL (h0:Nat)(al:Option (List Nat))(h:j8)(kd:Kd)(m k x:Option qa):Option qq:=match m,k,x with
 |some (.map b),Eh kv,Eh v=>bT (yw h0 al b) (Np h b kd kv v h[b]?)
 |_,_,_=>Eo
@[go_sem] theorem j89 {b:Nat}{kd:Kd}{kv v:qa}:UL h0 al h kd (Eh (.map b)) (Eh kv) (Eh v)=bT (yw h0 al b) (Np h b kd kv v h[b]?):=rfl
@[go_sem] theorem jun {kd:Kd}{m k x:qf}:za p xc h0 al e h (.mapUpdate kd m k x)=UL h0 al h kd (zd e m) (zd e k) (zd e x):=by
 simp only[za,zk,UL]
 cases zd e m with
 |none=>cases zd e k<;>cases zd e x<;>rfl
 |some v=>cases zd e k with
  |none=>cases v<;>cases zd e x<;>rfl
  |some kv=>cases zd e x with
   |none=>cases v<;>rfl
   |some xv=>cases v with
    |map b=>
     simp only[bT,y7,Np,DU,gV]
     cases yw h0 al b with
     |false=>rfl
     |true=>
      simp only[cT]
      cases h[b]? with
      |none=>rfl
      |some x=>cases x with
       |map es=>
        simp only[]
        cases yz kd kv es 0 with
        |none=>rfl
        |some r=>cases r with
         |none=>
          simp only[]
          cases E7 es.length 1073741824 with
          |false=>rfl
          |true=>simp only[cT];cases yj h b (.map (es++[(kv,xv)]))<;>rfl
         |some r=>simp only[];cases yj h b (.map (pG es r.1 xv))<;>rfl
       |_=>rfl
    |_=>rfl
def jb3 (agg:Bool)(len sz:Nat)(h:j8)(x i:Option qa):Option qq:=match x,i with
  |some (.ptr b o),Eh j=>(match idx len j with
   |some j=>val h (.ptr b (o+j*sz))
   |none=>Eo)
  |some (.ah (.agg cs)),Eh j=>(match idx len j with
   |some j=>(match part agg cs (j*sz) sz with
    |some v=>bif Bool.xor agg v.isAgg then Eo else val h (.ah v)
    |none=>Eo)
   |none=>Eo)
  |_,_=>Eo
@[go_sem] theorem jxd {agg:Bool}{len sz:Nat}{x i:qf}:za p xc h0 al e h (.dP agg len sz x i)=jb3 agg len sz h (zd e x) (zd e i):=rfl
end
section
variable {p:qr}{xc:XC}{h0:Nat}{al:Option (List Nat)}{e:Env}{h:j8}{α:Type}
@[go_sem] theorem jo0 {n s v:Nat}{xs:List qa}:oN n (.vec s v xs)=Gb:=rfl
@[go_sem] theorem q8a {n b v k:Nat}:below n (.au b v k)=decide (b<n):=by
 simp only[below]
 cases hb:Gp b n with
 |true=>simp[Gh.mp hb]
 |false=>
  have:¬b<n:=fun h=>by rw[Gh.mpr h]at hb;cases hb
  simp[this]
def yv (f:α→qa)(l:List α):List qa:=(l.map f).flatMap qa.flat
theorem j6h {f:α→qa}:yv f []=[]:=rfl
theorem vS {f:α→qa}{x:α}{l:List α}:yv f (x::l)=(f x).flat++yv f l:=rfl
theorem q4h {f:α→qa}{l m:List α}:yv f (l++m)=yv f l++yv f m:=by simp[yv]
theorem GM {f:α→qa}{sz:Nat}(hf:∀x,(f x).flat.length=sz)(l:List α):(yv f l).length=l.length*sz:=by
 induction l with
 |nil=>simp[yv]
 |cons x l ih=>rw[vS,List.length_append,hf,ih,If,Gn];omega
theorem qxk {f:α→qa}{sz:Nat}(hf:∀x,(f x).flat.length=sz):∀ {l:List α} {i:Nat},(yv f l).drop (i*sz)=yv f (l.drop i)
 | [],i=>by simp[yv]
 |x::l,0=>by simp
 |x::l,i+1=>by
  rw[vS,List.drop_succ_cons,←qxk hf,show(i+1)*sz=(f x).flat.length+i*sz by rw[hf,Gn];omega,Gi]
  simp
theorem q6s {f:α→qa}{sz:Nat}(hf:∀x,(f x).flat.length=sz):∀ {l:List α} {i:Nat},(yv f l).take (i*sz)=yv f (l.take i)
 | [],i=>by simp[yv]
 |x::l,0=>by simp[yv]
 |x::l,i+1=>by
  rw[vS,List.take_succ_cons,vS,←q6s hf,show(i+1)*sz=(f x).flat.length+i*sz by rw[hf,Gn];omega,Gk]
  congr 1
  ·exact E6 (by omega)
  ·congr 1;omega
theorem je6 {f:α→qa}{sz i:Nat}{l:List α}{x:α}(hf:∀x,(f x).flat.length=sz)(hx:l[i]?=Eh x):(yv f l).drop (i*sz)=(f x).flat++yv f (l.drop (i+1)):=by
 rw[qxk hf]
 have aY:=(I.1 hx).1
 rw[Ga aY,vS,(I.1 hx).2]
theorem DV {f:α→qa}{sz i o n:Nat}{l:List α}{x:α}(hf:∀x,(f x).flat.length=sz)(hx:l[i]?=Eh x)(ho:o+n≤sz):((yv f l).drop (i*sz+o)).take n=((f x).flat.drop o).take n∧i*sz+o+n≤(yv f l).length:=by
 have aY:=(I.1 hx).1
 refine⟨?_,?_⟩
 ·rw[←List.drop_drop,je6 hf hx,Gi,Gk]
  have h1:(f x).flat.length=sz:=hf x
  have h2:n-((f x).flat.drop o).length=0:=by rw[List.length_drop];omega
  rw[h2,I6,Ip]
 ·rw[GM hf]
  have:(i+1)*sz≤l.length*sz:=Nat.mul_le_mul_right _ aY
  rw[Gn]at this
  omega
theorem qzr {f:α→qa}{sz i o:Nat}{l:List α}{x y:α}{us:List qa}(hf:∀x,(f x).flat.length=sz)(hx:l[i]?=Eh x)(ho:o+us.length≤sz)(hy:(f y).flat=(f x).flat.take o++us++(f x).flat.drop (o+us.length)):
  (yv f l).take (i*sz+o)++us++(yv f l).drop (i*sz+o+us.length)=yv f (l.set i y):=by
 have aY:=(I.1 hx).1
 have AB:l=l.take i++x::l.drop (i+1):=by
  conv=>lhs;rw[←List.take_append_drop i l,Ga aY,(I.1 hx).2]
 have bh:l.set i y=l.take i++y::l.drop (i+1):=by rw[Ev,if_pos aY]
 have hl:(yv f (l.take i)).length=i*sz:=by rw[GM hf,List.length_take,Nat.min_eq_left (by omega)]
 have h1:(f x).flat.length=sz:=hf x
 rw[bh]
 conv=>lhs;rw[AB]
 simp only[q4h,vS]
 rw[hy,Gk,Gi,hl]
 have e1:(yv f (l.take i)).take (i*sz+o)=yv f (l.take i):=E6 (by omega)
 have e2:(yv f (l.take i)).drop (i*sz+o+us.length)=[]:=List.drop_eq_nil_of_le (by omega)
 rw[e1,e2,List.nil_append,show i*sz+o-i*sz=o by omega,show i*sz+o+us.length-i*sz=o+us.length by omega,Gk,Gi]
 have e3:o-(f x).flat.length=0:=by omega
 have e4:o+us.length-(f x).flat.length=0:=by omega
 rw[e3,e4,I6,Gx,Ip]
 simp[List.append_assoc]
def bz (f:α→qa)(l:List α):List (qa×Bool):=cellsOf (yv f l)
theorem kz {vs:List qa}:(cellsOf vs).map (·.1)=vs:=by
 induction vs with
 |nil=>rfl
 |cons v vs ih=>simp only[cellsOf,List.map_cons]at ih ⊢;rw[ih]
theorem j2k {f:α→qa}{sz:Nat}(hf:∀x,(f x).flat.length=sz)(l:List α):(bz f l).length=l.length*sz:=by simp[bz,cellsOf,GM hf]
theorem uM {f:α→qa}{sz i o n:Nat}{l:List α}{x:α}(hf:∀x,(f x).flat.length=sz)(hx:l[i]?=Eh x)(ho:o+n≤sz):kc (bz f l) (i*sz+o) n=Eh (((f x).flat.drop o).take n):=by
 obtain⟨h1,h2⟩:=DV hf hx ho
 unfold kc
 have:(bz f l).length=(yv f l).length:=by simp[bz,cellsOf]
 rw[this,El h2]
 simp only[cT,Eh.injEq]
 rw[←h1]
 simp only[bz,Ha,Hb,kz]
theorem zio {f:α→qa}{sz i:Nat}{l:List α}{x:α}(hf:∀x,(f x).flat.length=sz)(hx:l[i]?=Eh x):kc (bz f l) (i*sz) sz=Eh (f x).flat:=by
 have:=uM (o:=0) (n:=sz) hf hx (by omega)
 rw[Nat.add_zero,Gx,E6 (by rw[hf];exact Nat.le_refl _)]at this
 exact this
theorem lW {f:α→qa}{sz i o:Nat}{l:List α}{x y:α}{us:List qa}(hf:∀x,(f x).flat.length=sz)(hx:l[i]?=Eh x)(ho:o+us.length≤sz)(hs:us.all ze=Gb)(hy:(f y).flat=(f x).flat.take o++us++(f x).flat.drop (o+us.length)):
  yi (bz f l) (i*sz+o) us=Eh (bz f (l.set i y)):=by
 obtain⟨_,h2⟩:=DV hf hx ho
 unfold yi
 have:(bz f l).length=(yv f l).length:=by simp[bz,cellsOf]
 rw[this,El h2,hs]
 simp only[Gm,cT,Eh.injEq]
 rw[show bz f (l.set i y)=cellsOf (yv f (l.set i y))from rfl,←qzr hf hx ho hy]
 simp[bz,cellsOf,Iu,Ha,Hb]
theorem q5o {f:α→qa}{sz i o:Nat}{l:List α}{x y:α}{u:qa}(hf:∀x,(f x).flat.length=sz)(hx:l[i]?=Eh x)(ho:o<sz)(hy:(f y).flat=(f x).flat.set o u):(bz f l).set (i*sz+o) (u,E5)=bz f (l.set i y):=by
 have hl:(f x).flat.length=sz:=hf x
 have h2:=(DV (n:=1) (o:=o) hf hx (by omega)).2
 have:=qzr (us:=[u]) (y:=y) (o:=o) hf hx (by simp;omega) (by rw[hy,Ev,if_pos (show o<(f x).flat.length by omega)];simp)
 rw[show bz f (l.set i y)=cellsOf (yv f (l.set i y))from rfl,←this]
 simp only[bz,cellsOf,If,List.length_nil]
 rw[Ev,if_pos (by simp;omega)]
 simp[Iu,Ha,Hb]
theorem jyf {f:α→qa}{sz i o n b v:Nat}{l:List α}{x:α}(hf:∀x,(f x).flat.length=sz)(hb:h[b]?=Eh (.vec sz v (l.map f)))(od:ug h0 al b=Gb)(hx:l[i]?=Eh x)(ho:o+n≤sz):
  fN h0 al Gb n h (Eh (.dk b v (i*sz+o)))=Eh ⟨.agg (((f x).flat.drop o).take n),E5,Eo,h⟩:=by
 obtain⟨h1,h2⟩:=DV hf hx ho
 have hg:y7 h b=Eh (.vec sz v (l.map f)):=hb
 show(bif ug h0 al b then(match y7 h b with
   |some (.vec _ dc xs)=>bif Gc v dc&&E7 (i*sz+o+n) (xs.flatMap qa.flat).length then(bif Gb then val h (.agg (((xs.flatMap qa.flat).drop (i*sz+o)).take n))else(match((xs.flatMap qa.flat).drop (i*sz+o)).take n with
     | [v]=>val h v
     |_=>Eo))else Eo
   |_=>Eo)else Eo)=_
 rw[od,hg]
 simp only[cT,Gl,Ht]
 have h3:E7 (i*sz+o+n) ((l.map f).flatMap qa.flat).length=Gb:=El h2
 rw[h3]
 simp only[cT,val]
 have h4:(((l.map f).flatMap qa.flat).drop (i*sz+o)).take n=((f x).flat.drop o).take n:=h1
 rw[h4]
theorem jbd {f:α→qa}{sz i b v:Nat}{l:List α}{x:α}(hf:∀x,(f x).flat.length=sz)(hb:h[b]?=Eh (.vec sz v (l.map f)))(od:ug h0 al b=Gb)(hx:l[i]?=Eh x):
  fN h0 al Gb sz h (Eh (.dk b v (i*sz)))=Eh ⟨.agg (f x).flat,E5,Eo,h⟩:=by
 have:=jyf (al:=al) (h0:=h0) (o:=0) (n:=sz) hf hb od hx (by omega)
 rw[Nat.add_zero,Gx,E6 (by rw[hf];exact Nat.le_refl _)]at this
 exact this
theorem joy {f:α→qa}{sz i o b v:Nat}{l:List α}{x:α}{u:qa}(hf:∀x,(f x).flat.length=sz)(hb:h[b]?=Eh (.vec sz v (l.map f)))(od:ug h0 al b=Gb)(hx:l[i]?=Eh x)(hu:(f x).flat[o]?=Eh u):
  fN h0 al E5 1 h (Eh (.dk b v (i*sz+o)))=Eh ⟨u,E5,Eo,h⟩:=by
 have aY:=(I.1 hu).1
 rw[hf]at aY
 obtain⟨h1,h2⟩:=DV (n:=1) hf hx (by omega:o+1≤sz)
 have hg:y7 h b=Eh (.vec sz v (l.map f)):=hb
 show(bif ug h0 al b then(match y7 h b with
   |some (.vec _ dc xs)=>bif Gc v dc&&E7 (i*sz+o+1) (xs.flatMap qa.flat).length then(bif E5 then val h (.agg (((xs.flatMap qa.flat).drop (i*sz+o)).take 1))else(match((xs.flatMap qa.flat).drop (i*sz+o)).take 1 with
     | [v]=>val h v
     |_=>Eo))else Eo
   |_=>Eo)else Eo)=_
 rw[od,hg]
 simp only[cT,Gl,Ht]
 have h3:E7 (i*sz+o+1) ((l.map f).flatMap qa.flat).length=Gb:=El h2
 have h4:(((l.map f).flatMap qa.flat).drop (i*sz+o)).take 1=[u]:=by
  show((yv f l).drop (i*sz+o)).take 1=[u]
  have Sx:=(I.1 hu).1
  rw[h1,Ga Sx,(I.1 hu).2]
  rfl
 rw[h3,h4]
 rfl
def oi (h0:Nat)(r sz bytes:Nat)(h:j8)(x y:Option qa):Option qq:=match x,y with
 |some (.list Gb _ []),Eh vy=>(match kr sz vy with
   |some ys=>
    bif E7 ys.length 1073741824&&E7 bytes 4096&&Gp 0 sz&&!ys.isEmpty&&zw 0 ys&&Gp r 1000 then
     (match aI h0 h r (.vec sz 0 ys)with
      |some h'=>val h' (.au (h0+r) 0 ys.length)
      |none=>Eo)else Eo
   |none=>Eo)
 |some (.au b bu len),Eh vy=>(match y7 h b with
  |some (.vec cK dc xs)=>(match kr sz vy with
   |some ys=>
    bif Gc bu dc&&Gc sz cK&&E7 len xs.length&&E7 (len+ys.length) 1073741824&&E7 bytes 4096&&Gp 0 sz&&zw 0 ys&&Gp r 1000 then
     (match yj h b (.vec sz (bu+1) (xs.take len++ys))with
      |some h'=>val h' (.au b (bu+1) (len+ys.length))
      |none=>Eo)else Eo
   |none=>Eo)
  |_=>Eo)
 |_,_=>Eo
@[go_sem] theorem zjf {r sz bytes:Nat}{x y:qf}:za p xc h0 al e h (.gK r sz bytes x y)=oi h0 r sz bytes h (zd e x) (zd e y):=rfl
theorem q11 {r sz z bytes:Nat}{ys:List qa}{b:Bool}{h':j8}(hl:ys.length≤1073741824)(hb:bytes≤4096)(hz:0<sz)(br:ys≠[])(hp:zw 0 ys=Gb)(hr:r<1000)(hn:aI h0 h r (.vec sz 0 ys)=Eh h'):oi h0 r sz bytes h (Eh (.list Gb z [])) (Eh (.list b sz ys))=Eh ⟨.au (h0+r) 0 ys.length,E5,Eo,h'⟩:=by
 have h5:ys.isEmpty=E5:=by cases ys<;>simp at br ⊢
 simp only[oi,kr,Gl,I7,cT,El hl,El hb,Gh.mpr hz,h5,hp,Gh.mpr hr,Bool.not_false,Gm,hn]
 rfl
theorem ja1 {r sz bytes b v len:Nat}{xs ys:List qa}{c:Bool}(gf:h[b]?=Eh (.vec sz v xs))(hlen:len≤xs.length)(hl:len+ys.length≤1073741824)(hb:bytes≤4096)(hz:0<sz)(hp:zw 0 ys=Gb)(hr:r<1000):
  oi h0 r sz bytes h (Eh (.au b v len)) (Eh (.list c sz ys))=Eh ⟨.au b (v+1) (len+ys.length),E5,Eo,h.set b (.vec sz (v+1) (xs.take len++ys))⟩:=by
 have hg:y7 h b=Eh (.vec sz v xs):=gf
 have aY:=(I.1 gf).1
 simp only[oi,hg,kr,Gl,I7,cT,El hlen,El hl,El hb,Gh.mpr hz,hp,Gh.mpr hr,Gm,yj,Gh.mpr aY]
 rfl
theorem jbv {sz b v len i:Nat}{k:IntKind}(hi:i<len):jL sz h (Eh (.au b v len)) (Eh (.int k (i:Int)))=Eh ⟨.dk b v (i*sz),E5,Eo,h⟩:=by
 have:idx len (.int k (i:Int))=Eh i:=by rw[xF];exact Ud hi
 simp only[jL,this]
 rfl
@[go_sem] theorem j9o {n:Nat}:za p xc h0 al e h (.fW n)=Eh ⟨.cE n,Gb,Eo,h⟩:=rfl
def Nq (n:Nat)(h:j8)(x:Option (qa×Bool))(y:Option qa):Option qq:=match x,y with
 |some (.cE m,Gb),Eh v=>bT (Gc m n&&Gc v.flat.length n&&v.flat.all ze) (Eh ⟨.ah v,E5,Eo,h⟩)
 |_,_=>Eo
theorem q2s {n m:Nat}{v:qa}:Nq n h (Eh (.cE m,Gb)) (Eh v)=bT (Gc m n&&Gc v.flat.length n&&v.flat.all ze) (Eh ⟨.ah v,E5,Eo,h⟩):=rfl
@[go_sem] theorem j75 {n:Nat}{v:qa}(hv:(Gc v.flat.length n&&v.flat.all ze)=Gb):Nq n h (Eh (.cE n,Gb)) (Eh v)=Eh ⟨.ah v,E5,Eo,h⟩:=by
 rw[q2s,Gl,Ht,hv];rfl
@[go_sem] theorem za7 {n s:Nat}{x:qf}:za p xc h0 al e h (.dv n s x)=Nq n h (ye s e) (zd e x):=by
 simp only[za,zi,Nq]
 split
 ·rename_i m v h1 h2
  rw[h1,h2]
  simp only[bT]
  cases (Gc m n&&Gc v.flat.length n&&v.flat.all ze)<;>rfl
 ·rename_i F6
  split
  ·rename_i m v h1 h2
   exact absurd h2 (F6 m v h1)
  ·rfl
end
end Go.Abs
