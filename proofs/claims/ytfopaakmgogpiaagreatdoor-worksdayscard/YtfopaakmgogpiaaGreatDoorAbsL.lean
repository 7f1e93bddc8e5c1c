/- Equations of the executor, third part. -/
import Derived.Test.YtfopaakmgogpiaaGreatDoorAbsJ
open List renaming getElem?_eq_some_iff→I,set_eq_take_append_cons_drop→E4,take_of_length_le→Gk,drop_eq_getElem_cons→Gm,drop_append→G2,take_append→Ha,drop_zero→Md,map_take→Mm,map_drop→Mn,length_cons→Mx,append_nil→Mz,map_append→Nh,take_zero→N0
open Option renaming some→E1,none→E3
open Nat renaming ble_eq_true_of_le→E2,ble→Gl,beq→Gp,blt_eq→Gq,beq_refl→Hb,succ_mul→H7,blt→If
open Bool renaming false→E6,true→Gn,and_self→Hd,true_and→Mr,and_eq_true→Mw,true_or→N1
namespace Go.Abs
section
variable {p:qt}{xc:XC}{h0:Nat}{al:Option (List Nat)}{e:Env}{h:j8}{α:Type}
def Dz {α γ δ:Type}(g:Nat→γ→α→γ⊕δ):Nat→γ→List α→γ⊕δ
 |_,s,[]=>.inl s
 |i,s,x::l=>match g i s x with
  | .inl s'=>Dz g (i+1) s' l
  | .inr d=>.inr d
def jqo {γ δ:Type}(En:γ→qo×qg)(Ex:δ→qo×qg):γ⊕δ→qo×qg
 | .inl s=>En s
 | .inr d=>Ex d
@[simp] theorem zhy {γ δ:Type}{En:γ→qo×qg}{Ex:δ→qo×qg}{s:γ}:jqo En Ex (.inl s)=En s:=rfl
@[simp] theorem zhs {γ δ:Type}{En:γ→qo×qg}{Ex:δ→qo×qg}{s:δ}:jqo En Ex (.inr s)=Ex s:=rfl
theorem jde {c:qf}{n:Nat}{r:qo×qg}(hr:r.1≠.normal):Dw p c n (E1 r)=E1 r:=by
 obtain⟨x,st⟩:=r
 cases x with
 |normal=>exact absurd rfl hr
 |ret=>rfl
 |exit id=>rfl
theorem jl2 {n:Nat}{st:qg}{h':j8}(hn:n=h.length)(hs:st.heap=h++h')(h1:l6 n st.env=Gn)(h2:kh n h=Gn):gc n st=⟨st.env,h⟩:=by
 obtain⟨ev,hp⟩:=st
 simp only at hs h1
 subst hs hn
 unfold gc
 cases h' with
 |nil=>simp
 |cons b h'=>
  have hle:Gl (h++b::h').length h.length=E6:=by
   rw[mK];simp
  simp only[hle,cond_false,List.take_left',h1,h2,Hd,cT]
def Ab (h:j8)(x i:Option qa):Option qq:=match x,i with
 |some (.str s),E1 j=>(match idx s.length j with
   |some j=>(match s[j]? with
    |some c=>val h (.int .u8 c.toNat)
    |none=>E3)
   |none=>E3)
 |_,_=>E3
@[go_sem] theorem j1v {x i:qh}:za p xc h0 al e h (.dI x i)=Ab h (zd e x) (zd e i):=by
 simp only[za,zi,Ab]
 cases zd e x with
 |none=>rfl
 |some v=>cases v with
  |str s=>cases zd e i<;>rfl
  |_=>cases zd e i<;>rfl
theorem jdb {s:List UInt8}{k:IntKind}{i:Nat}{c:UInt8}(hc:s[i]?=E1 c):Ab h (E1 (.str s)) (E1 (.int k (i:Int)))=E1 ⟨.int .u8 c.toNat,E6,E3,h⟩:=by
 have hl:i<s.length:=(I.1 hc).1
 have:idx s.length (.int k (i:Int))=E1 i:=by rw[xb,Ud hl]
 simp only[Ab,this,hc,val]
@[go_sem] theorem zi3 {a b:List UInt8}:fo .eql (.str a) (.str b)=E1 (.bool (decide (a=b))):=by
 by_cases pz:a=b<;>simp[fo,Ez,pz]
@[go_sem] theorem zi9 {a b:List UInt8}:fo .neq (.str a) (.str b)=E1 (.bool (!decide (a=b))):=by
 by_cases pz:a=b<;>simp[fo,Ez,pz]
def UI (h0 r:Nat)(h:j8)(x:Option qa):Option qq:=match x with
 |some (.str s)=>gP (aJ h0 h r (.iter s 0)) (.ptr (h0+r) 0)
 |_=>E3
@[go_sem] theorem ju6 {r:Nat}{s:List UInt8}:UI h0 r h (E1 (.str s))=gP (aJ h0 h r (.iter s 0)) (.ptr (h0+r) 0):=rfl
@[go_sem] theorem zcj {r:Nat}{x:qh}:za p xc h0 al e h (.cZ r x)=UI h0 r h (zd e x):=by
 simp only[za,zm,UI]
 cases zd e x with
 |none=>rfl
 |some v=>cases v with
  |str s=>simp only[gP];cases aJ h0 h r (.iter s 0)<;>rfl
  |_=>rfl
def ux (h:j8)(b:Nat)(x:Option qn):Option qq:=match x with
 |some (.iter s pos)=>bif If pos s.length then gP (yj h b (.iter s (pos+(zf s pos).2))) (.aC [.bool Gn,.int .i64 pos,.int .i32 (zf s pos).1])else val h (.aC [.bool E6])
 |_=>E3
theorem jgh {b pos:Nat}{s:List UInt8}(hp:pos<s.length):ux h b (E1 (.iter s pos))=gP (yj h b (.iter s (pos+(zf s pos).2))) (.aC [.bool Gn,.int .i64 pos,.int .i32 (zf s pos).1]):=by
 simp only[ux,uv,hp,decide_true,cT]
theorem jda {b pos:Nat}{s:List UInt8}(hp:¬pos<s.length):ux h b (E1 (.iter s pos))=E1 ⟨.aC [.bool E6],E6,E3,h⟩:=by
 simp only[ux,uv,hp,decide_false,cond_false,val]
def UJ (h0:Nat)(al:Option (List Nat))(h:j8)(x:Option qa):Option qq:=match x with
 |some (.ptr b 0)=>bR (yv h0 al b) (ux h b h[b]?)
 |_=>E3
@[go_sem] theorem j48 {b:Nat}:UJ h0 al h (E1 (.ptr b 0))=bR (yv h0 al b) (ux h b h[b]?):=rfl
@[go_sem] theorem zis {x:qh}:za p xc h0 al e h (.eP x)=UJ h0 al h (zd e x):=by
 simp only[za,zm,UJ]
 cases zd e x with
 |none=>rfl
 |some v=>cases v with
  |ptr b o=>
   cases o with
   |succ o=>rfl
   |zero=>
    simp only[bR,y5,ux,gP]
    cases yv h0 al b with
    |false=>rfl
    |true=>
     simp only[cT]
     cases h[b]? with
     |none=>rfl
     |some x=>cases x with
      |iter s pos=>
       simp only[]
       cases If pos s.length with
       |false=>rfl
       |true=>simp only[cT];cases yj h b (.iter s (pos+(zf s pos).2))<;>rfl
      |_=>rfl
  |_=>rfl
theorem ja3 {s:List UInt8}{i:Nat}{c:UInt8}(hc:s[i]?=E1 c)(hl:c.toNat<128):zf s i=(c.toNat,1):=by
 have hg:(ByteArray.get! ⟨⟨s⟩⟩ (i+0))=c:=by
  obtain⟨h1,h2⟩:=I.1 hc
  simp[ByteArray.get!,h1,h2]
 simp only[zf,Utf8.decode,hg,hl,if_true]
theorem jc6 {s:List UInt8}{i:Nat}{c:UInt8}(hc:s[i]?=E1 c)(hl:¬c.toNat<128):128≤(zf s i).1:=by
 have hg:(ByteArray.get! ⟨⟨s⟩⟩ (i+0))=c:=by
  obtain⟨h1,h2⟩:=I.1 hc
  simp[ByteArray.get!,h1,h2]
 simp only[zf,Utf8.decode,hg,hl,if_false,Utf8.runeError]
 split
 ·split<;>simp<;>omega
 ·split
  ·split
   ·next hh=>simp only[Mw,decide_eq_true_eq]at hh;simp only;omega
   ·decide
  ·split
   ·split
    ·next hh=>simp only[Mw,decide_eq_true_eq]at hh;simp only;omega
    ·decide
   ·decide
def vr (h:j8)(zero:qa)(r:Option (Option (Nat×qa))):Option qq:=match r with
 |some (E1 (_,v))=>val h v
 |some E3=>val h zero
 |none=>E3
@[go_sem] theorem jwk {z v:qa}{i:Nat}:vr h z (E1 (E1 (i,v)))=E1 ⟨v,E6,E3,h⟩:=rfl
@[go_sem] theorem j3p {z:qa}:vr h z (E1 E3)=E1 ⟨z,E6,E3,h⟩:=rfl
def Nd (h:j8)(kd:Kd)(z kv:qa)(x:Option qn):Option qq:=match x with
 |some (.map es)=>vr h z (yw kd kv es 0)
 |_=>E3
@[go_sem] theorem j7f {kd:Kd}{z kv:qa}{es:List (qa×qa)}:Nd h kd z kv (E1 (.map es))=vr h z (yw kd kv es 0):=rfl
def UK (h0:Nat)(al:Option (List Nat))(h:j8)(kd:Kd)(z:qa)(m k:Option qa):Option qq:=match m,k with
 |some (.map b),E1 kv=>bR (yv h0 al b) (Nd h kd z kv h[b]?)
 |some .bM,E1 _=>val h z
 |_,_=>E3
@[go_sem] theorem jvn {kd:Kd}{z kv:qa}{b:Nat}:UK h0 al h kd z (E1 (.map b)) (E1 kv)=bR (yv h0 al b) (Nd h kd z kv h[b]?):=rfl
@[go_sem] theorem zcs {kd:Kd}{z:qa}{m k:qh}:za p xc h0 al e h (.lookup kd z E6 m k)=UK h0 al h kd z (zd e m) (zd e k):=by
 simp only[za,gT,UK]
 cases zd e m with
 |none=>cases zd e k<;>rfl
 |some v=>cases zd e k with
  |none=>cases v<;>rfl
  |some kv=>cases v with
   |map b=>
    simp only[bR,y5,Nd,vr]
    cases yv h0 al b with
    |false=>rfl
    |true=>
     simp only[cT]
     cases h[b]? with
     |none=>rfl
     |some x=>cases x with
      |map es=>
       simp only[]
       cases yw kd kv es 0 with
       |none=>rfl
       |some r=>cases r<;>rfl
      |_=>rfl
   |_=>rfl
def DA (h:j8)(b:Nat)(es:List (qa×qa))(kv v:qa)(r:Option (Option (Nat×qa))):Option qq:=match r with
 |some (E1 (i,_))=>gP (yj h b (.map (px es i v))) .undef
 |some E3=>bR (Gl es.length 1073741824) (gP (yj h b (.map (es++[(kv,v)]))) .undef)
 |none=>E3
@[go_sem] theorem j9f {b:Nat}{es:List (qa×qa)}{kv v:qa}:DA h b es kv v (E1 E3)=bR (Gl es.length 1073741824) (gP (yj h b (.map (es++[(kv,v)]))) .undef):=rfl
def Nf (h:j8)(b:Nat)(kd:Kd)(kv v:qa)(x:Option qn):Option qq:=match x with
 |some (.map es)=>DA h b es kv v (yw kd kv es 0)
 |_=>E3
@[go_sem] theorem zew {b:Nat}{kd:Kd}{kv v:qa}{es:List (qa×qa)}:Nf h b kd kv v (E1 (.map es))=DA h b es kv v (yw kd kv es 0):=rfl
def UL (h0:Nat)(al:Option (List Nat))(h:j8)(kd:Kd)(m k x:Option qa):Option qq:=match m,k,x with
 |some (.map b),E1 kv,E1 v=>bR (yv h0 al b) (Nf h b kd kv v h[b]?)
 |_,_,_=>E3
@[go_sem] theorem zfe {b:Nat}{kd:Kd}{kv v:qa}:UL h0 al h kd (E1 (.map b)) (E1 kv) (E1 v)=bR (yv h0 al b) (Nf h b kd kv v h[b]?):=rfl
@[go_sem] theorem jvx {kd:Kd}{m k x:qh}:za p xc h0 al e h (.mapUpdate kd m k x)=UL h0 al h kd (zd e m) (zd e k) (zd e x):=by
 simp only[za,zm,UL]
 cases zd e m with
 |none=>cases zd e k<;>cases zd e x<;>rfl
 |some v=>cases zd e k with
  |none=>cases v<;>cases zd e x<;>rfl
  |some kv=>cases zd e x with
   |none=>cases v<;>rfl
   |some xv=>cases v with
    |map b=>
     simp only[bR,y5,Nf,DA,gP]
     cases yv h0 al b with
     |false=>rfl
     |true=>
      simp only[cT]
      cases h[b]? with
      |none=>rfl
      |some x=>cases x with
       |map es=>
        simp only[]
        cases yw kd kv es 0 with
        |none=>rfl
        |some r=>cases r with
         |none=>
          simp only[]
          cases Gl es.length 1073741824 with
          |false=>rfl
          |true=>simp only[cT];cases yj h b (.map (es++[(kv,xv)]))<;>rfl
         |some r=>simp only[];cases yj h b (.map (px es r.1 xv))<;>rfl
       |_=>rfl
    |_=>rfl
def jb6 (agg:Bool)(len sz:Nat)(h:j8)(x i:Option qa):Option qq:=match x,i with
  |some (.ptr b o),E1 j=>(match idx len j with
   |some j=>val h (.ptr b (o+j*sz))
   |none=>E3)
  |some (.ah (.agg cs)),E1 j=>(match idx len j with
   |some j=>(match part agg cs (j*sz) sz with
    |some v=>bif Bool.xor agg v.isAgg then E3 else val h (.ah v)
    |none=>E3)
   |none=>E3)
  |_,_=>E3
@[go_sem] theorem j2n {agg:Bool}{len sz:Nat}{x i:qh}:za p xc h0 al e h (.dJ agg len sz x i)=jb6 agg len sz h (zd e x) (zd e i):=rfl
end
section
variable {p:qt}{xc:XC}{h0:Nat}{al:Option (List Nat)}{e:Env}{h:j8}{α:Type}
@[go_sem] theorem juq {n s v:Nat}{xs:List qa}:oG n (.vec s v xs)=Gn:=rfl
@[go_sem] theorem jai {n b v k:Nat}:below n (.ak b v k)=decide (b<n):=by
 simp only[below]
 cases hb:If b n with
 |true=>simp[Gq.mp hb]
 |false=>
  have:¬b<n:=fun h=>by rw[Gq.mpr h]at hb;cases hb
  simp[this]
def yu (f:α→qa)(l:List α):List qa:=(l.map f).flatMap qa.flat
theorem j7g {f:α→qa}:yu f []=[]:=rfl
theorem vt {f:α→qa}{x:α}{l:List α}:yu f (x::l)=(f x).flat++yu f l:=rfl
theorem q3l {f:α→qa}{l m:List α}:yu f (l++m)=yu f l++yu f m:=by simp[yu]
theorem Gj {f:α→qa}{sz:Nat}(hf:∀x,(f x).flat.length=sz)(l:List α):(yu f l).length=l.length*sz:=by
 induction l with
 |nil=>simp[yu]
 |cons x l ih=>rw[vt,List.length_append,hf,ih,Mx,H7];omega
theorem qvr {f:α→qa}{sz:Nat}(hf:∀x,(f x).flat.length=sz):∀ {l:List α} {i:Nat},(yu f l).drop (i*sz)=yu f (l.drop i)
 | [],i=>by simp[yu]
 |x::l,0=>by simp
 |x::l,i+1=>by
  rw[vt,List.drop_succ_cons,←qvr hf,show(i+1)*sz=(f x).flat.length+i*sz by rw[hf,H7];omega,G2]
  simp
theorem q7v {f:α→qa}{sz:Nat}(hf:∀x,(f x).flat.length=sz):∀ {l:List α} {i:Nat},(yu f l).take (i*sz)=yu f (l.take i)
 | [],i=>by simp[yu]
 |x::l,0=>by simp[yu]
 |x::l,i+1=>by
  rw[vt,List.take_succ_cons,vt,←q7v hf,show(i+1)*sz=(f x).flat.length+i*sz by rw[hf,H7];omega,Ha]
  congr 1
  ·exact Gk (by omega)
  ·congr 1;omega
theorem jhw {f:α→qa}{sz i:Nat}{l:List α}{x:α}(hf:∀x,(f x).flat.length=sz)(hx:l[i]?=E1 x):(yu f l).drop (i*sz)=(f x).flat++yu f (l.drop (i+1)):=by
 rw[qvr hf]
 have aX:=(I.1 hx).1
 rw[Gm aX,vt,(I.1 hx).2]
theorem DB {f:α→qa}{sz i o n:Nat}{l:List α}{x:α}(hf:∀x,(f x).flat.length=sz)(hx:l[i]?=E1 x)(ho:o+n≤sz):((yu f l).drop (i*sz+o)).take n=((f x).flat.drop o).take n∧i*sz+o+n≤(yu f l).length:=by
 have aX:=(I.1 hx).1
 refine⟨?_,?_⟩
 ·rw[←List.drop_drop,jhw hf hx,G2,Ha]
  have h1:(f x).flat.length=sz:=hf x
  have h2:n-((f x).flat.drop o).length=0:=by rw[List.length_drop];omega
  rw[h2,N0,Mz]
 ·rw[Gj hf]
  have:(i+1)*sz≤l.length*sz:=Nat.mul_le_mul_right _ aX
  rw[H7]at this
  omega
theorem qz4 {f:α→qa}{sz i o:Nat}{l:List α}{x y:α}{us:List qa}(hf:∀x,(f x).flat.length=sz)(hx:l[i]?=E1 x)(ho:o+us.length≤sz)(hy:(f y).flat=(f x).flat.take o++us++(f x).flat.drop (o+us.length)):
  (yu f l).take (i*sz+o)++us++(yu f l).drop (i*sz+o+us.length)=yu f (l.set i y):=by
 have aX:=(I.1 hx).1
 have Ac:l=l.take i++x::l.drop (i+1):=by
  conv=>lhs;rw[←List.take_append_drop i l,Gm aX,(I.1 hx).2]
 have bm:l.set i y=l.take i++y::l.drop (i+1):=by rw[E4,if_pos aX]
 have hl:(yu f (l.take i)).length=i*sz:=by rw[Gj hf,List.length_take,Nat.min_eq_left (by omega)]
 have h1:(f x).flat.length=sz:=hf x
 rw[bm]
 conv=>lhs;rw[Ac]
 simp only[q3l,vt]
 rw[hy,Ha,G2,hl]
 have e1:(yu f (l.take i)).take (i*sz+o)=yu f (l.take i):=Gk (by omega)
 have e2:(yu f (l.take i)).drop (i*sz+o+us.length)=[]:=List.drop_eq_nil_of_le (by omega)
 rw[e1,e2,List.nil_append,show i*sz+o-i*sz=o by omega,show i*sz+o+us.length-i*sz=o+us.length by omega,Ha,G2]
 have e3:o-(f x).flat.length=0:=by omega
 have e4:o+us.length-(f x).flat.length=0:=by omega
 rw[e3,e4,N0,Md,Mz]
 simp[List.append_assoc]
def bz (f:α→qa)(l:List α):List (qa×Bool):=cellsOf (yu f l)
theorem kx {vs:List qa}:(cellsOf vs).map (·.1)=vs:=by
 induction vs with
 |nil=>rfl
 |cons v vs ih=>simp only[cellsOf,List.map_cons]at ih ⊢;rw[ih]
theorem j2o {f:α→qa}{sz:Nat}(hf:∀x,(f x).flat.length=sz)(l:List α):(bz f l).length=l.length*sz:=by simp[bz,cellsOf,Gj hf]
theorem uy {f:α→qa}{sz i o n:Nat}{l:List α}{x:α}(hf:∀x,(f x).flat.length=sz)(hx:l[i]?=E1 x)(ho:o+n≤sz):y9 (bz f l) (i*sz+o) n=E1 (((f x).flat.drop o).take n):=by
 obtain⟨h1,h2⟩:=DB hf hx ho
 unfold y9
 have:(bz f l).length=(yu f l).length:=by simp[bz,cellsOf]
 rw[this,E2 h2]
 simp only[cT,E1.injEq]
 rw[←h1]
 simp only[bz,Mm,Mn,kx]
theorem zi5 {f:α→qa}{sz i:Nat}{l:List α}{x:α}(hf:∀x,(f x).flat.length=sz)(hx:l[i]?=E1 x):y9 (bz f l) (i*sz) sz=E1 (f x).flat:=by
 have:=uy (o:=0) (n:=sz) hf hx (by omega)
 rw[Nat.add_zero,Md,Gk (by rw[hf];exact Nat.le_refl _)]at this
 exact this
theorem lS {f:α→qa}{sz i o:Nat}{l:List α}{x y:α}{us:List qa}(hf:∀x,(f x).flat.length=sz)(hx:l[i]?=E1 x)(ho:o+us.length≤sz)(hs:us.all ze=Gn)(hy:(f y).flat=(f x).flat.take o++us++(f x).flat.drop (o+us.length)):
  yi (bz f l) (i*sz+o) us=E1 (bz f (l.set i y)):=by
 obtain⟨_,h2⟩:=DB hf hx ho
 unfold yi
 have:(bz f l).length=(yu f l).length:=by simp[bz,cellsOf]
 rw[this,E2 h2,hs]
 simp only[Hd,cT,E1.injEq]
 rw[show bz f (l.set i y)=cellsOf (yu f (l.set i y))from rfl,←qz4 hf hx ho hy]
 simp[bz,cellsOf,Nh,Mm,Mn]
theorem q57 {f:α→qa}{sz i o:Nat}{l:List α}{x y:α}{u:qa}(hf:∀x,(f x).flat.length=sz)(hx:l[i]?=E1 x)(ho:o<sz)(hy:(f y).flat=(f x).flat.set o u):(bz f l).set (i*sz+o) (u,E6)=bz f (l.set i y):=by
 have hl:(f x).flat.length=sz:=hf x
 have h2:=(DB (n:=1) (o:=o) hf hx (by omega)).2
 have:=qz4 (us:=[u]) (y:=y) (o:=o) hf hx (by simp;omega) (by rw[hy,E4,if_pos (show o<(f x).flat.length by omega)];simp)
 rw[show bz f (l.set i y)=cellsOf (yu f (l.set i y))from rfl,←this]
 simp only[bz,cellsOf,Mx,List.length_nil]
 rw[E4,if_pos (by simp;omega)]
 simp[Nh,Mm,Mn]
theorem jwr {f:α→qa}{sz i o n b v:Nat}{l:List α}{x:α}(hf:∀x,(f x).flat.length=sz)(hb:h[b]?=E1 (.vec sz v (l.map f)))(nY:tR h0 al b=Gn)(hx:l[i]?=E1 x)(ho:o+n≤sz):
  gd h0 al Gn n h (E1 (.dq b v (i*sz+o)))=E1 ⟨.agg (((f x).flat.drop o).take n),E6,E3,h⟩:=by
 obtain⟨h1,h2⟩:=DB hf hx ho
 have hg:y5 h b=E1 (.vec sz v (l.map f)):=hb
 show(bif tR h0 al b then(match y5 h b with
   |some (.vec _ db xs)=>bif Gp v db&&Gl (i*sz+o+n) (xs.flatMap qa.flat).length then(bif Gn then val h (.agg (((xs.flatMap qa.flat).drop (i*sz+o)).take n))else(match((xs.flatMap qa.flat).drop (i*sz+o)).take n with
     | [v]=>val h v
     |_=>E3))else E3
   |_=>E3)else E3)=_
 rw[nY,hg]
 simp only[cT,Hb,Mr]
 have h3:Gl (i*sz+o+n) ((l.map f).flatMap qa.flat).length=Gn:=E2 h2
 rw[h3]
 simp only[cT,val]
 have h4:(((l.map f).flatMap qa.flat).drop (i*sz+o)).take n=((f x).flat.drop o).take n:=h1
 rw[h4]
theorem jrv {f:α→qa}{sz i b v:Nat}{l:List α}{x:α}(hf:∀x,(f x).flat.length=sz)(hb:h[b]?=E1 (.vec sz v (l.map f)))(nY:tR h0 al b=Gn)(hx:l[i]?=E1 x):
  gd h0 al Gn sz h (E1 (.dq b v (i*sz)))=E1 ⟨.agg (f x).flat,E6,E3,h⟩:=by
 have:=jwr (al:=al) (h0:=h0) (o:=0) (n:=sz) hf hb nY hx (by omega)
 rw[Nat.add_zero,Md,Gk (by rw[hf];exact Nat.le_refl _)]at this
 exact this
theorem jn3 {f:α→qa}{sz i o b v:Nat}{l:List α}{x:α}{u:qa}(hf:∀x,(f x).flat.length=sz)(hb:h[b]?=E1 (.vec sz v (l.map f)))(nY:tR h0 al b=Gn)(hx:l[i]?=E1 x)(hu:(f x).flat[o]?=E1 u):
  gd h0 al E6 1 h (E1 (.dq b v (i*sz+o)))=E1 ⟨u,E6,E3,h⟩:=by
 have aX:=(I.1 hu).1
 rw[hf]at aX
 obtain⟨h1,h2⟩:=DB (n:=1) hf hx (by omega:o+1≤sz)
 have hg:y5 h b=E1 (.vec sz v (l.map f)):=hb
 show(bif tR h0 al b then(match y5 h b with
   |some (.vec _ db xs)=>bif Gp v db&&Gl (i*sz+o+1) (xs.flatMap qa.flat).length then(bif E6 then val h (.agg (((xs.flatMap qa.flat).drop (i*sz+o)).take 1))else(match((xs.flatMap qa.flat).drop (i*sz+o)).take 1 with
     | [v]=>val h v
     |_=>E3))else E3
   |_=>E3)else E3)=_
 rw[nY,hg]
 simp only[cT,Hb,Mr]
 have h3:Gl (i*sz+o+1) ((l.map f).flatMap qa.flat).length=Gn:=E2 h2
 have h4:(((l.map f).flatMap qa.flat).drop (i*sz+o)).take 1=[u]:=by
  show((yu f l).drop (i*sz+o)).take 1=[u]
  have Sp:=(I.1 hu).1
  rw[h1,Gm Sp,(I.1 hu).2]
  rfl
 rw[h3,h4]
 rfl
def n8 (h0:Nat)(r sz bytes:Nat)(h:j8)(x y:Option qa):Option qq:=match x,y with
 |some (.list Gn _ []),E1 vy=>(match kl sz vy with
   |some ys=>
    bif Gl ys.length 1073741824&&Gl bytes 4096&&If 0 sz&&!ys.isEmpty&&zw 0 ys&&If r 1000 then
     (match aJ h0 h r (.vec sz 0 ys)with
      |some h'=>val h' (.ak (h0+r) 0 ys.length)
      |none=>E3)else E3
   |none=>E3)
 |some (.ak b bu len),E1 vy=>(match y5 h b with
  |some (.vec cJ db xs)=>(match kl sz vy with
   |some ys=>
    bif Gp bu db&&Gp sz cJ&&Gl len xs.length&&Gl (len+ys.length) 1073741824&&Gl bytes 4096&&If 0 sz&&zw 0 ys&&If r 1000 then
     (match yj h b (.vec sz (bu+1) (xs.take len++ys))with
      |some h'=>val h' (.ak b (bu+1) (len+ys.length))
      |none=>E3)else E3
   |none=>E3)
  |_=>E3)
 |_,_=>E3
@[go_sem] theorem zj2 {r sz bytes:Nat}{x y:qh}:za p xc h0 al e h (.gG r sz bytes x y)=n8 h0 r sz bytes h (zd e x) (zd e y):=rfl
theorem q20 {r sz z bytes:Nat}{ys:List qa}{b:Bool}{h':j8}(hl:ys.length≤1073741824)(hb:bytes≤4096)(hz:0<sz)(bw:ys≠[])(hp:zw 0 ys=Gn)(hr:r<1000)(hn:aJ h0 h r (.vec sz 0 ys)=E1 h'):n8 h0 r sz bytes h (E1 (.list Gn z [])) (E1 (.list b sz ys))=E1 ⟨.ak (h0+r) 0 ys.length,E6,E3,h'⟩:=by
 have h5:ys.isEmpty=E6:=by cases ys<;>simp at bw ⊢
 simp only[n8,kl,Hb,N1,cT,E2 hl,E2 hb,Gq.mpr hz,h5,hp,Gq.mpr hr,Bool.not_false,Hd,hn]
 rfl
theorem jbf {r sz bytes b v len:Nat}{xs ys:List qa}{c:Bool}(fZ:h[b]?=E1 (.vec sz v xs))(hlen:len≤xs.length)(hl:len+ys.length≤1073741824)(hb:bytes≤4096)(hz:0<sz)(hp:zw 0 ys=Gn)(hr:r<1000):
  n8 h0 r sz bytes h (E1 (.ak b v len)) (E1 (.list c sz ys))=E1 ⟨.ak b (v+1) (len+ys.length),E6,E3,h.set b (.vec sz (v+1) (xs.take len++ys))⟩:=by
 have hg:y5 h b=E1 (.vec sz v xs):=fZ
 have aX:=(I.1 fZ).1
 simp only[n8,hg,kl,Hb,N1,cT,E2 hlen,E2 hl,E2 hb,Gq.mpr hz,hp,Gq.mpr hr,Hd,yj,Gq.mpr aX]
 rfl
theorem jbo {sz b v len i:Nat}{k:IntKind}(hi:i<len):kL sz h (E1 (.ak b v len)) (E1 (.int k (i:Int)))=E1 ⟨.dq b v (i*sz),E6,E3,h⟩:=by
 have:idx len (.int k (i:Int))=E1 i:=by rw[xb];exact Ud hi
 simp only[kL,this]
 rfl
@[go_sem] theorem zhg {n:Nat}:za p xc h0 al e h (.fR n)=E1 ⟨.cE n,Gn,E3,h⟩:=rfl
def Ng (n:Nat)(h:j8)(x:Option (qa×Bool))(y:Option qa):Option qq:=match x,y with
 |some (.cE m,Gn),E1 v=>bR (Gp m n&&Gp v.flat.length n&&v.flat.all ze) (E1 ⟨.ah v,E6,E3,h⟩)
 |_,_=>E3
theorem q3u {n m:Nat}{v:qa}:Ng n h (E1 (.cE m,Gn)) (E1 v)=bR (Gp m n&&Gp v.flat.length n&&v.flat.all ze) (E1 ⟨.ah v,E6,E3,h⟩):=rfl
@[go_sem] theorem j74 {n:Nat}{v:qa}(hv:(Gp v.flat.length n&&v.flat.all ze)=Gn):Ng n h (E1 (.cE n,Gn)) (E1 v)=E1 ⟨.ah v,E6,E3,h⟩:=by
 rw[q3u,Hb,Mr,hv];rfl
@[go_sem] theorem zdm {n s:Nat}{x:qh}:za p xc h0 al e h (.dr n s x)=Ng n h (yd s e) (zd e x):=by
 simp only[za,zi,Ng]
 split
 ·rename_i m v h1 h2
  rw[h1,h2]
  simp only[bR]
  cases (Gp m n&&Gp v.flat.length n&&v.flat.all ze)<;>rfl
 ·rename_i FH
  split
  ·rename_i m v h1 h2
   exact absurd h2 (FH m v h1)
  ·rfl
end
end Go.Abs
