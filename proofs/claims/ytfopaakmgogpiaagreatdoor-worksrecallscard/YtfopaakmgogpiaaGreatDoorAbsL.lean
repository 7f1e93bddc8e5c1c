/- Equations of the executor, third part. -/
import Derived.Test.YtfopaakmgogpiaaGreatDoorAbsJ
set_option linter.unusedVariables false
set_option linter.unusedSimpArgs false
open List renaming getElem?_eq_some_iff→I,set_eq_take_append_cons_drop→Ep,take_of_length_le→Ga,drop_eq_getElem_cons→Gc,drop_append→Gh,take_append→Gi,drop_zero→Gr,map_take→Gv,map_drop→Gw,length_cons→G2,append_nil→G3,map_append→G5,take_zero→G6
open Option renaming some→Eh,none→Eo
open Nat renaming ble_eq_true_of_le→Ek,ble→Gb,beq→Ge,blt_eq→Gf,beq_refl→Gk,succ_mul→Gm,blt→Gn
open Bool renaming false→Eu,true→Ev,and_self→Gl,true_and→Gx,and_eq_true→Gy,true_or→G9
namespace Go.Abs
section
variable {p:qr}{xc:XC}{h0:Nat}{al:Option (List Nat)}{e:Env}{h:za}{α:Type}
def EO {α γ δ:Type}(g:Nat→γ→α→γ⊕δ):Nat→γ→List α→γ⊕δ
 |_,s,[]=>.inl s
 |i,s,x::l=>match g i s x with
  | .inl s'=>EO g (i+1) s' l
  | .inr d=>.inr d
def jrh {γ δ:Type}(En:γ→qi×qg)(Ex:δ→qi×qg):γ⊕δ→qi×qg
 | .inl s=>En s
 | .inr d=>Ex d
@[simp] theorem zbs {γ δ:Type}{En:γ→qi×qg}{Ex:δ→qi×qg}{s:γ}:jrh En Ex (.inl s)=En s:=rfl
@[simp] theorem zj9 {γ δ:Type}{En:γ→qi×qg}{Ex:δ→qi×qg}{s:δ}:jrh En Ex (.inr s)=Ex s:=rfl
theorem jcj {c n r}(hr:r.1≠.normal):EL p c n (Eh r)=Eh r:=by
 obtain⟨x,st⟩:=r
 cases x with
 |normal=>exact absurd rfl hr
 |ret=>rfl
 |exit id=>rfl
theorem jm0 {n st h'}(hn:n=h.length)(hs:st.heap=h++h')(h1:mK n st.env=Ev)(h2:ko n h=Ev):gc n st=⟨st.env,h⟩:=by
 obtain⟨ev,hp⟩:=st
 simp only at hs h1
 subst hs hn
 unfold gc
 cases h' with
 |nil=>simp
 |cons b h'=>
  have hle:Gb (h++b::h').length h.length=Eu:=by
   rw[nf];simp
  simp only[hle,cond_false,List.take_left',h1,h2,Gl,cT]
def A4 (h:za)(x i:Option qa):Option qo:=match x,i with
 |some (.str s),Eh j=>(match idx s.length j with
   |some j=>(match s[j]? with
    |some c=>val h (.int .u8 c.toNat)
    |none=>Eo)
   |none=>Eo)
 |_,_=>Eo
@[go_sem] theorem j35 {x i}:j8 p xc h0 al e h (.dN x i)=A4 h (zc e x) (zc e i):=by
 simp only[j8,zh,A4]
 cases zc e x with
 |none=>rfl
 |some v=>cases v with
  |str s=>cases zc e i<;>rfl
  |_=>cases zc e i<;>rfl
theorem jd9 {s:List UInt8}{k:IntKind}{i:Nat}{c:UInt8}(hc:s[i]?=Eh c):A4 h (Eh (.str s)) (Eh (.int k (i:Int)))=Eh ⟨.int .u8 c.toNat,Eu,Eo,h⟩:=by
 have hl:i<s.length:=(I.1 hc).1
 have:idx s.length (.int k (i:Int))=Eh i:=by rw[xW,VO hl]
 simp only[A4,this,hc,val]
@[go_sem] theorem zkn {a b}:fq .eql (.str a) (.str b)=Eh (.bool (decide (a=b))):=by
 by_cases qA:a=b<;>simp[fq,F2,qA]
@[go_sem] theorem zkw {a b}:fq .neq (.str a) (.str b)=Eh (.bool (!decide (a=b))):=by
 by_cases qA:a=b<;>simp[fq,F2,qA]
def Wl (h0 r:Nat)(h:za)(x:Option qa):Option qo:=match x with
 |some (.str s)=>fP (aF h0 h r (.iter s 0)) (.ptr (h0+r) 0)
 |_=>Eo
@[go_sem] theorem jwz {r s}:Wl h0 r h (Eh (.str s))=fP (aF h0 h r (.iter s 0)) (.ptr (h0+r) 0):=rfl
@[go_sem] theorem zha {r x}:j8 p xc h0 al e h (.cZ r x)=Wl h0 r h (zc e x):=by
 simp only[j8,zi,Wl]
 cases zc e x with
 |none=>rfl
 |some v=>cases v with
  |str s=>simp only[fP];cases aF h0 h r (.iter s 0)<;>rfl
  |_=>rfl
def vf (h:za)(b:Nat)(x:Option qn):Option qo:=match x with
 |some (.iter s pos)=>bif Gn pos s.length then fP (yh h b (.iter s (pos+(zg s pos).2))) (.ay [.bool Ev,.int .i64 pos,.int .i32 (zg s pos).1])else val h (.ay [.bool Eu])
 |_=>Eo
theorem jf0 {b pos s}(hp:pos<s.length):vf h b (Eh (.iter s pos))=fP (yh h b (.iter s (pos+(zg s pos).2))) (.ay [.bool Ev,.int .i64 pos,.int .i32 (zg s pos).1]):=by
 simp only[vf,vb,hp,decide_true,cT]
theorem jef {b pos s}(hp:¬pos<s.length):vf h b (Eh (.iter s pos))=Eh ⟨.ay [.bool Eu],Eu,Eo,h⟩:=by
 simp only[vf,vb,hp,decide_false,cond_false,val]
def Wm (h0:Nat)(al:Option (List Nat))(h:za)(x:Option qa):Option qo:=match x with
 |some (.ptr b 0)=>bT (yv h0 al b) (vf h b h[b]?)
 |_=>Eo
@[go_sem] theorem jyr {b}:Wm h0 al h (Eh (.ptr b 0))=bT (yv h0 al b) (vf h b h[b]?):=rfl
@[go_sem] theorem zlc {x}:j8 p xc h0 al e h (.eW x)=Wm h0 al h (zc e x):=by
 simp only[j8,zi,Wm]
 cases zc e x with
 |none=>rfl
 |some v=>cases v with
  |ptr b o=>
   cases o with
   |succ o=>rfl
   |zero=>
    simp only[bT,kc,vf,fP]
    cases yv h0 al b with
    |false=>rfl
    |true=>
     simp only[cT]
     cases h[b]? with
     |none=>rfl
     |some x=>cases x with
      |iter s pos=>
       simp only[]
       cases Gn pos s.length with
       |false=>rfl
       |true=>simp only[cT];cases yh h b (.iter s (pos+(zg s pos).2))<;>rfl
      |_=>rfl
  |_=>rfl
theorem jcu {s i c}(hc:s[i]?=Eh c)(hl:c.toNat<128):zg s i=(c.toNat,1):=by
 have hg:(ByteArray.get! ⟨⟨s⟩⟩ (i+0))=c:=by
  obtain⟨h1,h2⟩:=I.1 hc
  simp[ByteArray.get!,h1,h2]
 simp only[zg,Utf8.decode,hg,hl,if_true]
theorem jcm {s i c}(hc:s[i]?=Eh c)(hl:¬c.toNat<128):128≤(zg s i).1:=by
 have hg:(ByteArray.get! ⟨⟨s⟩⟩ (i+0))=c:=by
  obtain⟨h1,h2⟩:=I.1 hc
  simp[ByteArray.get!,h1,h2]
 simp only[zg,Utf8.decode,hg,hl,if_false,Utf8.runeError]
 split
 ·split<;>simp<;>omega
 ·split
  ·split
   ·next hh=>simp only[Gy,decide_eq_true_eq]at hh;simp only;omega
   ·decide
  ·split
   ·split
    ·next hh=>simp only[Gy,decide_eq_true_eq]at hh;simp only;omega
    ·decide
   ·decide
def wm (h:za)(zero:qa)(r:Option (Option (Nat×qa))):Option qo:=match r with
 |some (Eh (_,v))=>val h v
 |some Eo=>val h zero
 |none=>Eo
@[go_sem] theorem q98 {z v i}:wm h z (Eh (Eh (i,v)))=Eh ⟨v,Eu,Eo,h⟩:=rfl
@[go_sem] theorem jbc {z}:wm h z (Eh Eo)=Eh ⟨z,Eu,Eo,h⟩:=rfl
def HR (h:za)(kd:Kd)(z kv:qa)(x:Option qn):Option qo:=match x with
 |some (.map es)=>wm h z (yq kd kv es 0)
 |_=>Eo
@[go_sem] theorem jeb {kd z kv es}:HR h kd z kv (Eh (.map es))=wm h z (yq kd kv es 0):=rfl
def Wn (h0:Nat)(al:Option (List Nat))(h:za)(kd:Kd)(z:qa)(m k:Option qa):Option qo:=match m,k with
 |some (.map b),Eh kv=>bT (yv h0 al b) (HR h kd z kv h[b]?)
 |some .bM,Eh _=>val h z
 |_,_=>Eo
@[go_sem] theorem jxd {kd z kv b}:Wn h0 al h kd z (Eh (.map b)) (Eh kv)=bT (yv h0 al b) (HR h kd z kv h[b]?):=rfl
@[go_sem] theorem zhj {kd z m k}:j8 p xc h0 al e h (.lookup kd z Eu m k)=Wn h0 al h kd z (zc e m) (zc e k):=by
 simp only[j8,gU,Wn]
 cases zc e m with
 |none=>cases zc e k<;>rfl
 |some v=>cases zc e k with
  |none=>cases v<;>rfl
  |some kv=>cases v with
   |map b=>
    simp only[bT,kc,HR,wm]
    cases yv h0 al b with
    |false=>rfl
    |true=>
     simp only[cT]
     cases h[b]? with
     |none=>rfl
     |some x=>cases x with
      |map es=>
       simp only[]
       cases yq kd kv es 0 with
       |none=>rfl
       |some r=>cases r<;>rfl
      |_=>rfl
   |_=>rfl
def EP (h:za)(b:Nat)(es:List (qa×qa))(kv v:qa)(r:Option (Option (Nat×qa))):Option qo:=match r with
 |some (Eh (i,_))=>fP (yh h b (.map (nG es i v))) .undef
 |some Eo=>bT (Gb es.length 1073741824) (fP (yh h b (.map (es++[(kv,v)]))) .undef)
 |none=>Eo
@[go_sem] theorem jcl {b es kv v}:EP h b es kv v (Eh Eo)=bT (Gb es.length 1073741824) (fP (yh h b (.map (es++[(kv,v)]))) .undef):=rfl
def EQ (h:za)(b:Nat)(kd:Kd)(kv v:qa)(x:Option qn):Option qo:=match x with
 |some (.map es)=>EP h b es kv v (yq kd kv es 0)
 |_=>Eo
@[go_sem] theorem q40 {b kd kv v es}:EQ h b kd kv v (Eh (.map es))=EP h b es kv v (yq kd kv es 0):=rfl
def Wo (h0:Nat)(al:Option (List Nat))(h:za)(kd:Kd)(m k x:Option qa):Option qo:=match m,k,x with
 |some (.map b),Eh kv,Eh v=>bT (yv h0 al b) (EQ h b kd kv v h[b]?)
 |_,_,_=>Eo
@[go_sem] theorem zhy {b kd kv v}:Wo h0 al h kd (Eh (.map b)) (Eh kv) (Eh v)=bT (yv h0 al b) (EQ h b kd kv v h[b]?):=rfl
@[go_sem] theorem jw8 {kd m k x}:j8 p xc h0 al e h (.mapUpdate kd m k x)=Wo h0 al h kd (zc e m) (zc e k) (zc e x):=by
 simp only[j8,zi,Wo]
 cases zc e m with
 |none=>cases zc e k<;>cases zc e x<;>rfl
 |some v=>cases zc e k with
  |none=>cases v<;>cases zc e x<;>rfl
  |some kv=>cases zc e x with
   |none=>cases v<;>rfl
   |some xv=>cases v with
    |map b=>
     simp only[bT,kc,EQ,EP,fP]
     cases yv h0 al b with
     |false=>rfl
     |true=>
      simp only[cT]
      cases h[b]? with
      |none=>rfl
      |some x=>cases x with
       |map es=>
        simp only[]
        cases yq kd kv es 0 with
        |none=>rfl
        |some r=>cases r with
         |none=>
          simp only[]
          cases Gb es.length 1073741824 with
          |false=>rfl
          |true=>simp only[cT];cases yh h b (.map (es++[(kv,xv)]))<;>rfl
         |some r=>simp only[];cases yh h b (.map (nG es r.1 xv))<;>rfl
       |_=>rfl
    |_=>rfl
def eM (l:List (List UInt8)):List (qa×qa):=l.map fun s=>(.str s,.bool Ev)
theorem q4j (s:List UInt8):∀(l:List (List UInt8)) (i:Nat),yq .str (.str s) (eM l) i=Eh (if s∈l then Eh (i+l.idxOf s,.bool Ev)else Eo)
 | [],i=>by simp[eM,yq]
 |a::l,i=>by
  show yq .str (.str s) ((.str a,.bool Ev)::eM l) i=_
  simp only[yq,l4]
  by_cases hs:s=a
  ·subst hs;simp
  ·have hb:(s == a)=Eu:=by simp[hs]
   have ha:¬a=s:=fun hh=>hs hh.symm
   simp only[hb]
   rw[q4j s l (i+1)]
   by_cases hm:s∈l
   ·have eL:(a == s)=Eu:=by simp[ha]
    simp[hm,List.idxOf_cons,eL];omega
   ·simp[hm,hs]
@[go_sem] theorem Wp {s l}:yq .str (.str s) (eM l) 0=Eh (if s∈l then Eh (l.idxOf s,.bool Ev)else Eo):=by
 rw[q4j];simp
theorem q9m (l:List (List UInt8))(s:List UInt8):eM l++[(.str s,.bool Ev)]=eM (l++[s]):=by simp[eM]
@[go_sem] theorem jen {l}:(eM l).length=l.length:=by simp[eM]
def jch (agg:Bool)(len sz:Nat)(h:za)(x i:Option qa):Option qo:=match x,i with
  |some (.ptr b o),Eh j=>(match idx len j with
   |some j=>val h (.ptr b (o+j*sz))
   |none=>Eo)
  |some (.ah (.agg cs)),Eh j=>(match idx len j with
   |some j=>(match part agg cs (j*sz) sz with
    |some v=>bif Bool.xor agg v.isAgg then Eo else val h (.ah v)
    |none=>Eo)
   |none=>Eo)
  |_,_=>Eo
@[go_sem] theorem j5l {agg len sz x i}:j8 p xc h0 al e h (.dO agg len sz x i)=jch agg len sz h (zc e x) (zc e i):=rfl
end
section
variable {p:qr}{xc:XC}{h0:Nat}{al:Option (List Nat)}{e:Env}{h:za}{α:Type}
@[go_sem] theorem jv9 {n s v xs}:nF n (.vec s v xs)=Ev:=rfl
@[go_sem] theorem q9a {n b v k}:below n (.au b v k)=decide (b<n):=by
 simp only[below]
 cases hb:Gn b n with
 |true=>simp[Gf.mp hb]
 |false=>
  have:¬b<n:=fun h=>by rw[Gf.mpr h]at hb;cases hb
  simp[this]
def yw (f:α→qa)(l:List α):List qa:=(l.map f).flatMap qa.flat
theorem j9k {f:α→qa}:yw f []=[]:=rfl
theorem wo {f:α→qa}{x l}:yw f (x::l)=(f x).flat++yw f l:=rfl
theorem q55 {f:α→qa}{l m}:yw f (l++m)=yw f l++yw f m:=by simp[yw]
theorem HS {f:α→qa}{sz}(hf:∀x,(f x).flat.length=sz)(l:List α):(yw f l).length=l.length*sz:=by
 induction l with
 |nil=>simp[yw]
 |cons x l ih=>rw[wo,List.length_append,hf,ih,G2,Gm];omega
theorem qyg {f:α→qa}{sz}(hf:∀x,(f x).flat.length=sz):∀ {l:List α} {i:Nat},(yw f l).drop (i*sz)=yw f (l.drop i)
 | [],i=>by simp[yw]
 |x::l,0=>by simp
 |x::l,i+1=>by
  rw[wo,List.drop_succ_cons,←qyg hf,show(i+1)*sz=(f x).flat.length+i*sz by rw[hf,Gm];omega,Gh]
  simp
theorem q8s {f:α→qa}{sz}(hf:∀x,(f x).flat.length=sz):∀ {l:List α} {i:Nat},(yw f l).take (i*sz)=yw f (l.take i)
 | [],i=>by simp[yw]
 |x::l,0=>by simp[yw]
 |x::l,i+1=>by
  rw[wo,List.take_succ_cons,wo,←q8s hf,show(i+1)*sz=(f x).flat.length+i*sz by rw[hf,Gm];omega,Gi]
  congr 1
  ·exact Ga (by omega)
  ·congr 1;omega
theorem jks {f:α→qa}{sz i l x}(hf:∀x,(f x).flat.length=sz)(hx:l[i]?=Eh x):(yw f l).drop (i*sz)=(f x).flat++yw f (l.drop (i+1)):=by
 rw[qyg hf]
 have bh:=(I.1 hx).1
 rw[Gc bh,wo,(I.1 hx).2]
theorem ER {f:α→qa}{sz i o n l x}(hf:∀x,(f x).flat.length=sz)(hx:l[i]?=Eh x)(ho:o+n≤sz):((yw f l).drop (i*sz+o)).take n=((f x).flat.drop o).take n∧i*sz+o+n≤(yw f l).length:=by
 have bh:=(I.1 hx).1
 refine⟨?_,?_⟩
 ·rw[←List.drop_drop,jks hf hx,Gh,Gi]
  have h1:(f x).flat.length=sz:=hf x
  have h2:n-((f x).flat.drop o).length=0:=by rw[List.length_drop];omega
  rw[h2,G6,G3]
 ·rw[HS hf]
  have:(i+1)*sz≤l.length*sz:=Nat.mul_le_mul_right _ bh
  rw[Gm]at this
  omega
theorem q0v {f:α→qa}{sz i o l x y us}(hf:∀x,(f x).flat.length=sz)(hx:l[i]?=Eh x)(ho:o+us.length≤sz)(hy:(f y).flat=(f x).flat.take o++us++(f x).flat.drop (o+us.length)):
  (yw f l).take (i*sz+o)++us++(yw f l).drop (i*sz+o+us.length)=yw f (l.set i y):=by
 have bh:=(I.1 hx).1
 have A5:l=l.take i++x::l.drop (i+1):=by
  conv=>lhs;rw[←List.take_append_drop i l,Gc bh,(I.1 hx).2]
 have bn:l.set i y=l.take i++y::l.drop (i+1):=by rw[Ep,if_pos bh]
 have hl:(yw f (l.take i)).length=i*sz:=by rw[HS hf,List.length_take,Nat.min_eq_left (by omega)]
 have h1:(f x).flat.length=sz:=hf x
 rw[bn]
 conv=>lhs;rw[A5]
 simp only[q55,wo]
 rw[hy,Gi,Gh,hl]
 have e1:(yw f (l.take i)).take (i*sz+o)=yw f (l.take i):=Ga (by omega)
 have e2:(yw f (l.take i)).drop (i*sz+o+us.length)=[]:=List.drop_eq_nil_of_le (by omega)
 rw[e1,e2,List.nil_append,show i*sz+o-i*sz=o by omega,show i*sz+o+us.length-i*sz=o+us.length by omega,Gi,Gh]
 have e3:o-(f x).flat.length=0:=by omega
 have e4:o+us.length-(f x).flat.length=0:=by omega
 rw[e3,e4,G6,Gr,G3]
 simp[List.append_assoc]
def bA (f:α→qa)(l:List α):List (qa×Bool):=cellsOf (yw f l)
theorem k9 {vs}:(cellsOf vs).map (·.1)=vs:=by
 induction vs with
 |nil=>rfl
 |cons v vs ih=>simp only[cellsOf,List.map_cons]at ih ⊢;rw[ih]
theorem j3n {f sz}(hf:∀x,(f x).flat.length=sz)(l:List α):(bA f l).length=l.length*sz:=by simp[bA,cellsOf,HS hf]
theorem vg {f:α→qa}{sz i o n l x}(hf:∀x,(f x).flat.length=sz)(hx:l[i]?=Eh x)(ho:o+n≤sz):kf (bA f l) (i*sz+o) n=Eh (((f x).flat.drop o).take n):=by
 obtain⟨h1,h2⟩:=ER hf hx ho
 unfold kf
 have:(bA f l).length=(yw f l).length:=by simp[bA,cellsOf]
 rw[this,Ek h2]
 simp only[cT,Eh.injEq]
 rw[←h1]
 simp only[bA,Gv,Gw,k9]
theorem zk0 {f:α→qa}{sz i l x}(hf:∀x,(f x).flat.length=sz)(hx:l[i]?=Eh x):kf (bA f l) (i*sz) sz=Eh (f x).flat:=by
 have:=vg (o:=0) (n:=sz) hf hx (by omega)
 rw[Nat.add_zero,Gr,Ga (by rw[hf];exact Nat.le_refl _)]at this
 exact this
theorem mc {f:α→qa}{sz i o l x y us}(hf:∀x,(f x).flat.length=sz)(hx:l[i]?=Eh x)(ho:o+us.length≤sz)(hs:us.all zd=Ev)(hy:(f y).flat=(f x).flat.take o++us++(f x).flat.drop (o+us.length)):
  yj (bA f l) (i*sz+o) us=Eh (bA f (l.set i y)):=by
 obtain⟨_,h2⟩:=ER hf hx ho
 unfold yj
 have:(bA f l).length=(yw f l).length:=by simp[bA,cellsOf]
 rw[this,Ek h2,hs]
 simp only[Gl,cT,Eh.injEq]
 rw[show bA f (l.set i y)=cellsOf (yw f (l.set i y))from rfl,←q0v hf hx ho hy]
 simp[bA,cellsOf,G5,Gv,Gw]
theorem q6w {f:α→qa}{sz i o l x y u}(hf:∀x,(f x).flat.length=sz)(hx:l[i]?=Eh x)(ho:o<sz)(hy:(f y).flat=(f x).flat.set o u):(bA f l).set (i*sz+o) (u,Eu)=bA f (l.set i y):=by
 have hl:(f x).flat.length=sz:=hf x
 have h2:=(ER (n:=1) (o:=o) hf hx (by omega)).2
 have:=q0v (us:=[u]) (y:=y) (o:=o) hf hx (by simp;omega) (by rw[hy,Ep,if_pos (show o<(f x).flat.length by omega)];simp)
 rw[show bA f (l.set i y)=cellsOf (yw f (l.set i y))from rfl,←this]
 simp only[bA,cellsOf,G2,List.length_nil]
 rw[Ep,if_pos (by simp;omega)]
 simp[G5,Gv,Gw]
theorem j0v {f:α→qa}{sz i o n b v:Nat}{l:List α}{x:α}(hf:∀x,(f x).flat.length=sz)(hb:h[b]?=Eh (.vec sz v (l.map f)))(oA:uE h0 al b=Ev)(hx:l[i]?=Eh x)(ho:o+n≤sz):
  fO h0 al Ev n h (Eh (.dl b v (i*sz+o)))=Eh ⟨.agg (((f x).flat.drop o).take n),Eu,Eo,h⟩:=by
 obtain⟨h1,h2⟩:=ER hf hx ho
 have hg:kc h b=Eh (.vec sz v (l.map f)):=hb
 show(bif uE h0 al b then(match kc h b with
   |some (.vec _ de xs)=>bif Ge v de&&Gb (i*sz+o+n) (xs.flatMap qa.flat).length then(bif Ev then val h (.agg (((xs.flatMap qa.flat).drop (i*sz+o)).take n))else(match((xs.flatMap qa.flat).drop (i*sz+o)).take n with
     | [v]=>val h v
     |_=>Eo))else Eo
   |_=>Eo)else Eo)=_
 rw[oA,hg]
 simp only[cT,Gk,Gx]
 have h3:Gb (i*sz+o+n) ((l.map f).flatMap qa.flat).length=Ev:=Ek h2
 rw[h3]
 simp only[cT,val]
 have h4:(((l.map f).flatMap qa.flat).drop (i*sz+o)).take n=((f x).flat.drop o).take n:=h1
 rw[h4]
theorem jdk {f:α→qa}{sz i b v:Nat}{l:List α}{x:α}(hf:∀x,(f x).flat.length=sz)(hb:h[b]?=Eh (.vec sz v (l.map f)))(oA:uE h0 al b=Ev)(hx:l[i]?=Eh x):
  fO h0 al Ev sz h (Eh (.dl b v (i*sz)))=Eh ⟨.agg (f x).flat,Eu,Eo,h⟩:=by
 have:=j0v (al:=al) (h0:=h0) (o:=0) (n:=sz) hf hb oA hx (by omega)
 rw[Nat.add_zero,Gr,Ga (by rw[hf];exact Nat.le_refl _)]at this
 exact this
theorem jrx {f:α→qa}{sz i o b v:Nat}{l:List α}{x:α}{u}(hf:∀x,(f x).flat.length=sz)(hb:h[b]?=Eh (.vec sz v (l.map f)))(oA:uE h0 al b=Ev)(hx:l[i]?=Eh x)(hu:(f x).flat[o]?=Eh u):
  fO h0 al Eu 1 h (Eh (.dl b v (i*sz+o)))=Eh ⟨u,Eu,Eo,h⟩:=by
 have bh:=(I.1 hu).1
 rw[hf]at bh
 obtain⟨h1,h2⟩:=ER (n:=1) hf hx (by omega:o+1≤sz)
 have hg:kc h b=Eh (.vec sz v (l.map f)):=hb
 show(bif uE h0 al b then(match kc h b with
   |some (.vec _ de xs)=>bif Ge v de&&Gb (i*sz+o+1) (xs.flatMap qa.flat).length then(bif Eu then val h (.agg (((xs.flatMap qa.flat).drop (i*sz+o)).take 1))else(match((xs.flatMap qa.flat).drop (i*sz+o)).take 1 with
     | [v]=>val h v
     |_=>Eo))else Eo
   |_=>Eo)else Eo)=_
 rw[oA,hg]
 simp only[cT,Gk,Gx]
 have h3:Gb (i*sz+o+1) ((l.map f).flatMap qa.flat).length=Ev:=Ek h2
 have h4:(((l.map f).flatMap qa.flat).drop (i*sz+o)).take 1=[u]:=by
  show((yw f l).drop (i*sz+o)).take 1=[u]
  have Ud:=(I.1 hu).1
  rw[h1,Gc Ud,(I.1 hu).2]
  rfl
 rw[h3,h4]
 rfl
def oE (h0:Nat)(r sz bytes:Nat)(h:za)(x y:Option qa):Option qo:=match x,y with
 |some (.list Ev _ []),Eh vy=>(match ku sz vy with
   |some ys=>
    bif Gb ys.length 1073741824&&Gb bytes 4096&&Gn 0 sz&&!ys.isEmpty&&zr 0 ys&&Gn r 1000 then
     (match aF h0 h r (.vec sz 0 ys)with
      |some h'=>val h' (.au (h0+r) 0 ys.length)
      |none=>Eo)else Eo
   |none=>Eo)
 |some (.au b bz len),Eh vy=>(match kc h b with
  |some (.vec cJ de xs)=>(match ku sz vy with
   |some ys=>
    bif Ge bz de&&Ge sz cJ&&Gb len xs.length&&Gb (len+ys.length) 1073741824&&Gb bytes 4096&&Gn 0 sz&&zr 0 ys&&Gn r 1000 then
     (match yh h b (.vec sz (bz+1) (xs.take len++ys))with
      |some h'=>val h' (.au b (bz+1) (len+ys.length))
      |none=>Eo)else Eo
   |none=>Eo)
  |_=>Eo)
 |_,_=>Eo
@[go_sem] theorem zli {r sz bytes x y}:j8 p xc h0 al e h (.gG r sz bytes x y)=oE h0 r sz bytes h (zc e x) (zc e y):=rfl
theorem q5t {r sz z bytes ys b h'}(hl:ys.length≤1073741824)(hb:bytes≤4096)(hz:0<sz)(bu:ys≠[])(hp:zr 0 ys=Ev)(hr:r<1000)(hn:aF h0 h r (.vec sz 0 ys)=Eh h'):oE h0 r sz bytes h (Eh (.list Ev z [])) (Eh (.list b sz ys))=Eh ⟨.au (h0+r) 0 ys.length,Eu,Eo,h'⟩:=by
 have h5:ys.isEmpty=Eu:=by cases ys<;>simp at bu ⊢
 simp only[oE,ku,Gk,G9,cT,Ek hl,Ek hb,Gf.mpr hz,h5,hp,Gf.mpr hr,Bool.not_false,Gl,hn]
 rfl
theorem jco {r sz bytes b v len xs ys c}(gd:h[b]?=Eh (.vec sz v xs))(hlen:len≤xs.length)(hl:len+ys.length≤1073741824)(hb:bytes≤4096)(hz:0<sz)(hp:zr 0 ys=Ev)(hr:r<1000):
  oE h0 r sz bytes h (Eh (.au b v len)) (Eh (.list c sz ys))=Eh ⟨.au b (v+1) (len+ys.length),Eu,Eo,h.set b (.vec sz (v+1) (xs.take len++ys))⟩:=by
 have hg:kc h b=Eh (.vec sz v xs):=gd
 have bh:=(I.1 gd).1
 simp only[oE,hg,ku,Gk,G9,cT,Ek hlen,Ek hl,Ek hb,Gf.mpr hz,hp,Gf.mpr hr,Gl,yh,Gf.mpr bh]
 rfl
theorem jb1 {sz b v len i k}(hi:i<len):jS sz h (Eh (.au b v len)) (Eh (.int k (i:Int)))=Eh ⟨.dl b v (i*sz),Eu,Eo,h⟩:=by
 have:idx len (.int k (i:Int))=Eh i:=by rw[xW];exact VO hi
 simp only[jS,this]
 rfl
@[go_sem] theorem zfp {n}:j8 p xc h0 al e h (.fV n)=Eh ⟨.cE n,Ev,Eo,h⟩:=rfl
def OQ (n:Nat)(h:za)(x:Option (qa×Bool))(y:Option qa):Option qo:=match x,y with
 |some (.cE m,Ev),Eh v=>bT (Ge m n&&Ge v.flat.length n&&v.flat.all zd) (Eh ⟨.ah v,Eu,Eo,h⟩)
 |_,_=>Eo
theorem q5o {n m v}:OQ n h (Eh (.cE m,Ev)) (Eh v)=bT (Ge m n&&Ge v.flat.length n&&v.flat.all zd) (Eh ⟨.ah v,Eu,Eo,h⟩):=rfl
@[go_sem] theorem j9y {n v}(hv:(Ge v.flat.length n&&v.flat.all zd)=Ev):OQ n h (Eh (.cE n,Ev)) (Eh v)=Eh ⟨.ah v,Eu,Eo,h⟩:=by
 rw[q5o,Gk,Gx,hv];rfl
@[go_sem] theorem zh6 {n s x}:j8 p xc h0 al e h (.du n s x)=OQ n h (yd s e) (zc e x):=by
 simp only[j8,zh,OQ]
 split
 ·rename_i m v h1 h2
  rw[h1,h2]
  simp only[bT]
  cases (Ge m n&&Ge v.flat.length n&&v.flat.all zd)<;>rfl
 ·rename_i Hf
  split
  ·rename_i m v h1 h2
   exact absurd h2 (Hf m v h1)
  ·rfl
end
end Go.Abs
