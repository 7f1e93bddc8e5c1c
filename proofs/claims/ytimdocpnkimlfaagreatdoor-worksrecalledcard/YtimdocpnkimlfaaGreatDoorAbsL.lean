/- Equations of the executor, third part. -/
import Derived.Test.YtimdocpnkimlfaaGreatDoorAbsJ
set_option linter.unusedVariables false
set_option linter.unusedSimpArgs false
open List renaming getElem?_eq_some_iff→I,set_eq_take_append_cons_drop→Gd,take_of_length_le→Gi,drop_eq_getElem_cons→Gp,drop_append→Gs,take_append→Gv,drop_zero→G7,map_take→G8,map_drop→G9,length_cons→Hc,append_nil→Hd,map_append→If,take_zero→Ih
open Option renaming some→E3,none→Gc
open Nat renaming ble_eq_true_of_le→Ga,ble→Gm,beq→Gq,blt_eq→Gr,beq_refl→Gw,succ_mul→Gz,blt→G6
open Bool renaming false→Gg,true→Gh,and_self→Gx,true_and→Ha,and_eq_true→Hb,true_or→Iy
namespace Go.Abs
section
variable {p:j8}{xc:XC}{h0:Nat}{al:Option (List Nat)}{e:Env}{h:qh}{α:Type}
def D6 {α γ δ:Type}(g:Nat→γ→α→γ⊕δ):Nat→γ→List α→γ⊕δ
 |_,s,[]=>.inl s
 |i,s,x::l=>match g i s x with
  | .inl s'=>D6 g (i+1) s' l
  | .inr d=>.inr d
def jsy {γ δ:Type}(En:γ→jg×bf)(Ex:δ→jg×bf):γ⊕δ→jg×bf
 | .inl s=>En s
 | .inr d=>Ex d
@[simp] theorem zfk {γ δ:Type}{En:γ→jg×bf}{Ex:δ→jg×bf}{s:γ}:jsy En Ex (.inl s)=En s:=rfl
@[simp] theorem zcn {γ δ:Type}{En:γ→jg×bf}{Ex:δ→jg×bf}{s:δ}:jsy En Ex (.inr s)=Ex s:=rfl
theorem jfs {c n r}(hr:r.1≠.normal):D0 p c n (E3 r)=E3 r:=by
 obtain⟨x,st⟩:=r
 cases x with
 |normal=>exact absurd rfl hr
 |ret=>rfl
 |exit id=>rfl
theorem jpt {n st h'}(hn:n=h.length)(hs:st.heap=h++h')(h1:mV n st.env=Gh)(h2:zr n h=Gh):gc n st=⟨st.env,h⟩:=by
 obtain⟨ev,hp⟩:=st
 simp only at hs h1
 subst hs hn
 unfold gc
 cases h' with
 |nil=>simp
 |cons b h'=>
  have hle:Gm (h++b::h').length h.length=Gg:=by
   rw[nB];simp
  simp only[hle,cond_false,List.take_left',h1,h2,Gx,cond_true]
def Bb (h:qh)(x i:Option AVal):Option bh:=match x,i with
 |some (.str s),E3 j=>(match idx s.length j with
   |some j=>(match s[j]? with
    |some c=>val h (.int .u8 c.toNat)
    |none=>Gc)
   |none=>Gc)
 |_,_=>Gc
@[go_sem] theorem j3e {x i}:qf p xc h0 al e h (.ej x i)=Bb h (qi e x) (qi e i):=by
 simp only[qf,qo,Bb]
 cases qi e x with
 |none=>rfl
 |some v=>cases v with
  |str s=>cases qi e i<;>rfl
  |_=>cases qi e i<;>rfl
theorem jfq {s:List UInt8}{k:IntKind}{i:Nat}{c:UInt8}(hc:s[i]?=E3 c):Bb h (E3 (.str s)) (E3 (.int k (i:Int)))=E3 ⟨.int .u8 c.toNat,Gg,Gc,h⟩:=by
 have hl:i<s.length:=(I.1 hc).1
 have:idx s.length (.int k (i:Int))=E3 i:=by rw[vB,LO hl]
 simp only[Bb,this,hc,val]
@[go_sem] theorem zkv {a b}:yg .eql (.str a) (.str b)=E3 (.bool (decide (a=b))):=by
 by_cases qL:a=b<;>simp[yg,Fg,qL]
@[go_sem] theorem zk6 {a b}:yg .neq (.str a) (.str b)=E3 (.bool (!decide (a=b))):=by
 by_cases qL:a=b<;>simp[yg,Fg,qL]
def Tk (h0 r:Nat)(h:qh)(x:Option AVal):Option bh:=match x with
 |some (.str s)=>fp (aK h0 h r (.iter s 0)) (.ptr (h0+r) 0)
 |_=>Gc
@[go_sem] theorem jzt {r s}:Tk h0 r h (E3 (.str s))=fp (aK h0 h r (.iter s 0)) (.ptr (h0+r) 0):=rfl
@[go_sem] theorem zh3 {r x}:qf p xc h0 al e h (.dw r x)=Tk h0 r h (qi e x):=by
 simp only[qf,qp,Tk]
 cases qi e x with
 |none=>rfl
 |some v=>cases v with
  |str s=>simp only[fp];cases aK h0 h r (.iter s 0)<;>rfl
  |_=>rfl
def vE (h:qh)(b:Nat)(x:Option bg):Option bh:=match x with
 |some (.iter s pos)=>bif G6 pos s.length then fp (jo h b (.iter s (pos+(qn s pos).2))) (.aC [.bool Gh,.int .i64 pos,.int .i32 (qn s pos).1])else val h (.aC [.bool Gg])
 |_=>Gc
theorem jli {b pos s}(hp:pos<s.length):vE h b (E3 (.iter s pos))=fp (jo h b (.iter s (pos+(qn s pos).2))) (.aC [.bool Gh,.int .i64 pos,.int .i32 (qn s pos).1]):=by
 simp only[vE,vD,hp,decide_true,cond_true]
theorem jef {b pos s}(hp:¬pos<s.length):vE h b (E3 (.iter s pos))=E3 ⟨.aC [.bool Gg],Gg,Gc,h⟩:=by
 simp only[vE,vD,hp,decide_false,cond_false,val]
def Tl (h0:Nat)(al:Option (List Nat))(h:qh)(x:Option AVal):Option bh:=match x with
 |some (.ptr b 0)=>b3 (zc h0 al b) (vE h b h[b]?)
 |_=>Gc
@[go_sem] theorem j3q {b}:Tl h0 al h (E3 (.ptr b 0))=b3 (zc h0 al b) (vE h b h[b]?):=rfl
@[go_sem] theorem zli {x}:qf p xc h0 al e h (.fB x)=Tl h0 al h (qi e x):=by
 simp only[qf,qp,Tl]
 cases qi e x with
 |none=>rfl
 |some v=>cases v with
  |ptr b o=>
   cases o with
   |succ o=>rfl
   |zero=>
    simp only[b3,zg,vE,fp]
    cases zc h0 al b with
    |false=>rfl
    |true=>
     simp only[cond_true]
     cases h[b]? with
     |none=>rfl
     |some x=>cases x with
      |iter s pos=>
       simp only[]
       cases G6 pos s.length with
       |false=>rfl
       |true=>simp only[cond_true];cases jo h b (.iter s (pos+(qn s pos).2))<;>rfl
      |_=>rfl
  |_=>rfl
theorem jfg {s i c}(hc:s[i]?=E3 c)(hl:c.toNat<128):qn s i=(c.toNat,1):=by
 have hg:(ByteArray.get! ⟨⟨s⟩⟩ (i+0))=c:=by
  obtain⟨h1,h2⟩:=I.1 hc
  simp[ByteArray.get!,h1,h2]
 simp only[qn,Utf8.decode,hg,hl,if_true]
theorem jee {s i c}(hc:s[i]?=E3 c)(hl:¬c.toNat<128):128≤(qn s i).1:=by
 have hg:(ByteArray.get! ⟨⟨s⟩⟩ (i+0))=c:=by
  obtain⟨h1,h2⟩:=I.1 hc
  simp[ByteArray.get!,h1,h2]
 simp only[qn,Utf8.decode,hg,hl,if_false,Utf8.runeError]
 split
 ·split<;>simp<;>omega
 ·split
  ·split
   ·next hh=>simp only[Hb,decide_eq_true_eq]at hh;simp only;omega
   ·decide
  ·split
   ·split
    ·next hh=>simp only[Hb,decide_eq_true_eq]at hh;simp only;omega
    ·decide
   ·decide
def rQ (h:qh)(zero:AVal)(r:Option (Option (Nat×AVal))):Option bh:=match r with
 |some (E3 (_,v))=>val h v
 |some Gc=>val h zero
 |none=>Gc
@[go_sem] theorem q9t {z v i}:rQ h z (E3 (E3 (i,v)))=E3 ⟨v,Gg,Gc,h⟩:=rfl
@[go_sem] theorem jak {z}:rQ h z (E3 Gc)=E3 ⟨z,Gg,Gc,h⟩:=rfl
def G4 (h:qh)(kd:Kd)(z kv:AVal)(x:Option bg):Option bh:=match x with
 |some (.map es)=>rQ h z (jl kd kv es 0)
 |_=>Gc
@[go_sem] theorem jf5 {kd z kv es}:G4 h kd z kv (E3 (.map es))=rQ h z (jl kd kv es 0):=rfl
def Tm (h0:Nat)(al:Option (List Nat))(h:qh)(kd:Kd)(z:AVal)(m k:Option AVal):Option bh:=match m,k with
 |some (.map b),E3 kv=>b3 (zc h0 al b) (G4 h kd z kv h[b]?)
 |some .bX,E3 _=>val h z
 |_,_=>Gc
@[go_sem] theorem jzs {kd z kv b}:Tm h0 al h kd z (E3 (.map b)) (E3 kv)=b3 (zc h0 al b) (G4 h kd z kv h[b]?):=rfl
@[go_sem] theorem zj2 {kd z m k}:qf p xc h0 al e h (.lookup kd z Gg m k)=Tm h0 al h kd z (qi e m) (qi e k):=by
 simp only[qf,yi,Tm]
 cases qi e m with
 |none=>cases qi e k<;>rfl
 |some v=>cases qi e k with
  |none=>cases v<;>rfl
  |some kv=>cases v with
   |map b=>
    simp only[b3,zg,G4,rQ]
    cases zc h0 al b with
    |false=>rfl
    |true=>
     simp only[cond_true]
     cases h[b]? with
     |none=>rfl
     |some x=>cases x with
      |map es=>
       simp only[]
       cases jl kd kv es 0 with
       |none=>rfl
       |some r=>cases r<;>rfl
      |_=>rfl
   |_=>rfl
def vF (h:qh)(b:Nat)(es:List (AVal×AVal))(kv v:AVal)(r:Option (Option (Nat×AVal))):Option bh:=match r with
 |some (E3 (i,_))=>fp (jo h b (.map (mW es i v))) .undef
 |some Gc=>b3 (Gm es.length 1073741824) (fp (jo h b (.map (es++[(kv,v)]))) .undef)
 |none=>Gc
@[go_sem] theorem jeh {b es kv v}:vF h b es kv v (E3 Gc)=b3 (Gm es.length 1073741824) (fp (jo h b (.map (es++[(kv,v)]))) .undef):=rfl
def D7 (h:qh)(b:Nat)(kd:Kd)(kv v:AVal)(x:Option bg):Option bh:=match x with
 |some (.map es)=>vF h b es kv v (jl kd kv es 0)
 |_=>Gc
@[go_sem] theorem q2y {b kd kv v es}:D7 h b kd kv v (E3 (.map es))=vF h b es kv v (jl kd kv es 0):=rfl
def Tn (h0:Nat)(al:Option (List Nat))(h:qh)(kd:Kd)(m k x:Option AVal):Option bh:=match m,k,x with
 |some (.map b),E3 kv,E3 v=>b3 (zc h0 al b) (D7 h b kd kv v h[b]?)
 |_,_,_=>Gc
@[go_sem] theorem zhg {b kd kv v}:Tn h0 al h kd (E3 (.map b)) (E3 kv) (E3 v)=b3 (zc h0 al b) (D7 h b kd kv v h[b]?):=rfl
@[go_sem] theorem jz1 {kd m k x}:qf p xc h0 al e h (.mapUpdate kd m k x)=Tn h0 al h kd (qi e m) (qi e k) (qi e x):=by
 simp only[qf,qp,Tn]
 cases qi e m with
 |none=>cases qi e k<;>cases qi e x<;>rfl
 |some v=>cases qi e k with
  |none=>cases v<;>cases qi e x<;>rfl
  |some kv=>cases qi e x with
   |none=>cases v<;>rfl
   |some xv=>cases v with
    |map b=>
     simp only[b3,zg,D7,vF,fp]
     cases zc h0 al b with
     |false=>rfl
     |true=>
      simp only[cond_true]
      cases h[b]? with
      |none=>rfl
      |some x=>cases x with
       |map es=>
        simp only[]
        cases jl kd kv es 0 with
        |none=>rfl
        |some r=>cases r with
         |none=>
          simp only[]
          cases Gm es.length 1073741824 with
          |false=>rfl
          |true=>simp only[cond_true];cases jo h b (.map (es++[(kv,xv)]))<;>rfl
         |some r=>simp only[];cases jo h b (.map (mW es r.1 xv))<;>rfl
       |_=>rfl
    |_=>rfl
def y8 (l:List (List UInt8)):List (AVal×AVal):=l.map fun s=>(.str s,.bool Gh)
theorem q5h (s:List UInt8):∀(l:List (List UInt8)) (i:Nat),jl .str (.str s) (y8 l) i=E3 (if s∈l then E3 (i+l.idxOf s,.bool Gh)else Gc)
 | [],i=>by simp[y8,jl]
 |a::l,i=>by
  show jl .str (.str s) ((.str a,.bool Gh)::y8 l) i=_
  simp only[jl,mg]
  by_cases hs:s=a
  ·subst hs;simp
  ·have hb:(s == a)=Gg:=by simp[hs]
   have ha:¬a=s:=fun hh=>hs hh.symm
   simp only[hb]
   rw[q5h s l (i+1)]
   by_cases hm:s∈l
   ·have fi:(a == s)=Gg:=by simp[ha]
    simp[hm,List.idxOf_cons,fi];omega
   ·simp[hm,hs]
@[go_sem] theorem Tp {s l}:jl .str (.str s) (y8 l) 0=E3 (if s∈l then E3 (l.idxOf s,.bool Gh)else Gc):=by
 rw[q5h];simp
theorem jaz (l:List (List UInt8))(s:List UInt8):y8 l++[(.str s,.bool Gh)]=y8 (l++[s]):=by simp[y8]
@[go_sem] theorem jex {l}:(y8 l).length=l.length:=by simp[y8]
def L3 (agg:Bool)(len sz:Nat)(h:qh)(x i:Option AVal):Option bh:=match x,i with
  |some (.ptr b o),E3 j=>(match idx len j with
   |some j=>val h (.ptr b (o+j*sz))
   |none=>Gc)
  |some (.ah (.agg cs)),E3 j=>(match idx len j with
   |some j=>(match part agg cs (j*sz) sz with
    |some v=>bif Bool.xor agg v.isAgg then Gc else val h (.ah v)
    |none=>Gc)
   |none=>Gc)
  |_,_=>Gc
@[go_sem] theorem j1u {agg len sz x i}:qf p xc h0 al e h (.ek agg len sz x i)=L3 agg len sz h (qi e x) (qi e i):=rfl
end
section
variable {p:j8}{xc:XC}{h0:Nat}{al:Option (List Nat)}{e:Env}{h:qh}{α:Type}
@[go_sem] theorem jun {n s v xs}:nY n (.vec s v xs)=Gh:=rfl
@[go_sem] theorem jbp {n b v k}:below n (.ay b v k)=decide (b<n):=by
 simp only[below]
 cases hb:G6 b n with
 |true=>simp[Gr.mp hb]
 |false=>
  have:¬b<n:=fun h=>by rw[Gr.mpr h]at hb;cases hb
  simp[this]
def zb (f:α→AVal)(l:List α):List AVal:=(l.map f).flatMap AVal.flat
theorem zag {f:α→AVal}:zb f []=[]:=rfl
theorem wM {f:α→AVal}{x l}:zb f (x::l)=(f x).flat++zb f l:=rfl
theorem q2b {f:α→AVal}{l m}:zb f (l++m)=zb f l++zb f m:=by simp[zb]
theorem G5 {f:α→AVal}{sz}(hf:∀x,(f x).flat.length=sz)(l:List α):(zb f l).length=l.length*sz:=by
 induction l with
 |nil=>simp[zb]
 |cons x l ih=>rw[wM,List.length_append,hf,ih,Hc,Gz];omega
theorem qvj {f:α→AVal}{sz}(hf:∀x,(f x).flat.length=sz):∀ {l:List α} {i:Nat},(zb f l).drop (i*sz)=zb f (l.drop i)
 | [],i=>by simp[zb]
 |x::l,0=>by simp
 |x::l,i+1=>by
  rw[wM,List.drop_succ_cons,←qvj hf,show(i+1)*sz=(f x).flat.length+i*sz by rw[hf,Gz];omega,Gs]
  simp
theorem q9j {f:α→AVal}{sz}(hf:∀x,(f x).flat.length=sz):∀ {l:List α} {i:Nat},(zb f l).take (i*sz)=zb f (l.take i)
 | [],i=>by simp[zb]
 |x::l,0=>by simp[zb]
 |x::l,i+1=>by
  rw[wM,List.take_succ_cons,wM,←q9j hf,show(i+1)*sz=(f x).flat.length+i*sz by rw[hf,Gz];omega,Gv]
  congr 1
  ·exact Gi (by omega)
  ·congr 1;omega
theorem jjk {f:α→AVal}{sz i l x}(hf:∀x,(f x).flat.length=sz)(hx:l[i]?=E3 x):(zb f l).drop (i*sz)=(f x).flat++zb f (l.drop (i+1)):=by
 rw[qvj hf]
 have bw:=(I.1 hx).1
 rw[Gp bw,wM,(I.1 hx).2]
theorem D8 {f:α→AVal}{sz i o n l x}(hf:∀x,(f x).flat.length=sz)(hx:l[i]?=E3 x)(ho:o+n≤sz):((zb f l).drop (i*sz+o)).take n=((f x).flat.drop o).take n∧i*sz+o+n≤(zb f l).length:=by
 have bw:=(I.1 hx).1
 refine⟨?_,?_⟩
 ·rw[←List.drop_drop,jjk hf hx,Gs,Gv]
  have h1:(f x).flat.length=sz:=hf x
  have h2:n-((f x).flat.drop o).length=0:=by rw[List.length_drop];omega
  rw[h2,Ih,Hd]
 ·rw[G5 hf]
  have:(i+1)*sz≤l.length*sz:=Nat.mul_le_mul_right _ bw
  rw[Gz]at this
  omega
theorem qzu {f:α→AVal}{sz i o l x y us}(hf:∀x,(f x).flat.length=sz)(hx:l[i]?=E3 x)(ho:o+us.length≤sz)(hy:(f y).flat=(f x).flat.take o++us++(f x).flat.drop (o+us.length)):
  (zb f l).take (i*sz+o)++us++(zb f l).drop (i*sz+o+us.length)=zb f (l.set i y):=by
 have bw:=(I.1 hx).1
 have Bc:l=l.take i++x::l.drop (i+1):=by
  conv=>lhs;rw[←List.take_append_drop i l,Gp bw,(I.1 hx).2]
 have bD:l.set i y=l.take i++y::l.drop (i+1):=by rw[Gd,if_pos bw]
 have hl:(zb f (l.take i)).length=i*sz:=by rw[G5 hf,List.length_take,Nat.min_eq_left (by omega)]
 have h1:(f x).flat.length=sz:=hf x
 rw[bD]
 conv=>lhs;rw[Bc]
 simp only[q2b,wM]
 rw[hy,Gv,Gs,hl]
 have e1:(zb f (l.take i)).take (i*sz+o)=zb f (l.take i):=Gi (by omega)
 have e2:(zb f (l.take i)).drop (i*sz+o+us.length)=[]:=List.drop_eq_nil_of_le (by omega)
 rw[e1,e2,List.nil_append,show i*sz+o-i*sz=o by omega,show i*sz+o+us.length-i*sz=o+us.length by omega,Gv,Gs]
 have e3:o-(f x).flat.length=0:=by omega
 have e4:o+us.length-(f x).flat.length=0:=by omega
 rw[e3,e4,Ih,G7,Hd]
 simp[List.append_assoc]
def bK (f:α→AVal)(l:List α):List (AVal×Bool):=cellsOf (zb f l)
theorem z8 {vs}:(cellsOf vs).map (·.1)=vs:=by
 induction vs with
 |nil=>rfl
 |cons v vs ih=>simp only[cellsOf,List.map_cons]at ih ⊢;rw[ih]
theorem j3m {f sz}(hf:∀x,(f x).flat.length=sz)(l:List α):(bK f l).length=l.length*sz:=by simp[bK,cellsOf,G5 hf]
theorem vG {f:α→AVal}{sz i o n l x}(hf:∀x,(f x).flat.length=sz)(hx:l[i]?=E3 x)(ho:o+n≤sz):zj (bK f l) (i*sz+o) n=E3 (((f x).flat.drop o).take n):=by
 obtain⟨h1,h2⟩:=D8 hf hx ho
 unfold zj
 have:(bK f l).length=(zb f l).length:=by simp[bK,cellsOf]
 rw[this,Ga h2]
 simp only[cond_true,E3.injEq]
 rw[←h1]
 simp only[bK,G8,G9,z8]
theorem zk7 {f:α→AVal}{sz i l x}(hf:∀x,(f x).flat.length=sz)(hx:l[i]?=E3 x):zj (bK f l) (i*sz) sz=E3 (f x).flat:=by
 have:=vG (o:=0) (n:=sz) hf hx (by omega)
 rw[Nat.add_zero,G7,Gi (by rw[hf];exact Nat.le_refl _)]at this
 exact this
theorem mH {f:α→AVal}{sz i o l x y us}(hf:∀x,(f x).flat.length=sz)(hx:l[i]?=E3 x)(ho:o+us.length≤sz)(hs:us.all qk=Gh)(hy:(f y).flat=(f x).flat.take o++us++(f x).flat.drop (o+us.length)):
  jr (bK f l) (i*sz+o) us=E3 (bK f (l.set i y)):=by
 obtain⟨_,h2⟩:=D8 hf hx ho
 unfold jr
 have:(bK f l).length=(zb f l).length:=by simp[bK,cellsOf]
 rw[this,Ga h2,hs]
 simp only[Gx,cond_true,E3.injEq]
 rw[show bK f (l.set i y)=cellsOf (zb f (l.set i y))from rfl,←qzu hf hx ho hy]
 simp[bK,cellsOf,If,G8,G9]
theorem q6m {f:α→AVal}{sz i o l x y u}(hf:∀x,(f x).flat.length=sz)(hx:l[i]?=E3 x)(ho:o<sz)(hy:(f y).flat=(f x).flat.set o u):(bK f l).set (i*sz+o) (u,Gg)=bK f (l.set i y):=by
 have hl:(f x).flat.length=sz:=hf x
 have h2:=(D8 (n:=1) (o:=o) hf hx (by omega)).2
 have:=qzu (us:=[u]) (y:=y) (o:=o) hf hx (by simp;omega) (by rw[hy,Gd,if_pos (show o<(f x).flat.length by omega)];simp)
 rw[show bK f (l.set i y)=cellsOf (zb f (l.set i y))from rfl,←this]
 simp only[bK,cellsOf,Hc,List.length_nil]
 rw[Gd,if_pos (by simp;omega)]
 simp[If,G8,G9]
theorem j3o {f:α→AVal}{sz i o n b v:Nat}{l:List α}{x:α}(hf:∀x,(f x).flat.length=sz)(hb:h[b]?=E3 (.vec sz v (l.map f)))(oP:uX h0 al b=Gh)(hx:l[i]?=E3 x)(ho:o+n≤sz):
  gi h0 al Gh n h (E3 (.dH b v (i*sz+o)))=E3 ⟨.agg (((f x).flat.drop o).take n),Gg,Gc,h⟩:=by
 obtain⟨h1,h2⟩:=D8 hf hx ho
 have hg:zg h b=E3 (.vec sz v (l.map f)):=hb
 show(bif uX h0 al b then(match zg h b with
   |some (.vec _ dA xs)=>bif Gq v dA&&Gm (i*sz+o+n) (xs.flatMap AVal.flat).length then(bif Gh then val h (.agg (((xs.flatMap AVal.flat).drop (i*sz+o)).take n))else(match((xs.flatMap AVal.flat).drop (i*sz+o)).take n with
     | [v]=>val h v
     |_=>Gc))else Gc
   |_=>Gc)else Gc)=_
 rw[oP,hg]
 simp only[cond_true,Gw,Ha]
 have h3:Gm (i*sz+o+n) ((l.map f).flatMap AVal.flat).length=Gh:=Ga h2
 rw[h3]
 simp only[cond_true,val]
 have h4:(((l.map f).flatMap AVal.flat).drop (i*sz+o)).take n=((f x).flat.drop o).take n:=h1
 rw[h4]
theorem je4 {f:α→AVal}{sz i b v:Nat}{l:List α}{x:α}(hf:∀x,(f x).flat.length=sz)(hb:h[b]?=E3 (.vec sz v (l.map f)))(oP:uX h0 al b=Gh)(hx:l[i]?=E3 x):
  gi h0 al Gh sz h (E3 (.dH b v (i*sz)))=E3 ⟨.agg (f x).flat,Gg,Gc,h⟩:=by
 have:=j3o (al:=al) (h0:=h0) (o:=0) (n:=sz) hf hb oP hx (by omega)
 rw[Nat.add_zero,G7,Gi (by rw[hf];exact Nat.le_refl _)]at this
 exact this
theorem ju1 {f:α→AVal}{sz i o b v:Nat}{l:List α}{x:α}{u}(hf:∀x,(f x).flat.length=sz)(hb:h[b]?=E3 (.vec sz v (l.map f)))(oP:uX h0 al b=Gh)(hx:l[i]?=E3 x)(hu:(f x).flat[o]?=E3 u):
  gi h0 al Gg 1 h (E3 (.dH b v (i*sz+o)))=E3 ⟨u,Gg,Gc,h⟩:=by
 have bw:=(I.1 hu).1
 rw[hf]at bw
 obtain⟨h1,h2⟩:=D8 (n:=1) hf hx (by omega:o+1≤sz)
 have hg:zg h b=E3 (.vec sz v (l.map f)):=hb
 show(bif uX h0 al b then(match zg h b with
   |some (.vec _ dA xs)=>bif Gq v dA&&Gm (i*sz+o+1) (xs.flatMap AVal.flat).length then(bif Gg then val h (.agg (((xs.flatMap AVal.flat).drop (i*sz+o)).take 1))else(match((xs.flatMap AVal.flat).drop (i*sz+o)).take 1 with
     | [v]=>val h v
     |_=>Gc))else Gc
   |_=>Gc)else Gc)=_
 rw[oP,hg]
 simp only[cond_true,Gw,Ha]
 have h3:Gm (i*sz+o+1) ((l.map f).flatMap AVal.flat).length=Gh:=Ga h2
 have h4:(((l.map f).flatMap AVal.flat).drop (i*sz+o)).take 1=[u]:=by
  show((zb f l).drop (i*sz+o)).take 1=[u]
  have Q5:=(I.1 hu).1
  rw[h1,Gp Q5,(I.1 hu).2]
  rfl
 rw[h3,h4]
 rfl
def oS (h0:Nat)(r sz bytes:Nat)(h:qh)(x y:Option AVal):Option bh:=match x,y with
 |some (.list Gh _ []),E3 vy=>(match zy sz vy with
   |some ys=>
    bif Gm ys.length 1073741824&&Gm bytes 4096&&G6 0 sz&&!ys.isEmpty&&qw 0 ys&&G6 r 1000 then
     (match aK h0 h r (.vec sz 0 ys)with
      |some h'=>val h' (.ay (h0+r) 0 ys.length)
      |none=>Gc)else Gc
   |none=>Gc)
 |some (.ay b bJ len),E3 vy=>(match zg h b with
  |some (.vec c8 dA xs)=>(match zy sz vy with
   |some ys=>
    bif Gq bJ dA&&Gq sz c8&&Gm len xs.length&&Gm (len+ys.length) 1073741824&&Gm bytes 4096&&G6 0 sz&&qw 0 ys&&G6 r 1000 then
     (match jo h b (.vec sz (bJ+1) (xs.take len++ys))with
      |some h'=>val h' (.ay b (bJ+1) (len+ys.length))
      |none=>Gc)else Gc
   |none=>Gc)
  |_=>Gc)
 |_,_=>Gc
@[go_sem] theorem zma {r sz bytes x y}:qf p xc h0 al e h (.ia r sz bytes x y)=oS h0 r sz bytes h (qi e x) (qi e y):=rfl
theorem q2v {r sz z bytes ys b h'}(hl:ys.length≤1073741824)(hb:bytes≤4096)(hz:0<sz)(bG:ys≠[])(hp:qw 0 ys=Gh)(hr:r<1000)(hn:aK h0 h r (.vec sz 0 ys)=E3 h'):oS h0 r sz bytes h (E3 (.list Gh z [])) (E3 (.list b sz ys))=E3 ⟨.ay (h0+r) 0 ys.length,Gg,Gc,h'⟩:=by
 have h5:ys.isEmpty=Gg:=by cases ys<;>simp at bG ⊢
 simp only[oS,zy,Gw,Iy,cond_true,Ga hl,Ga hb,Gr.mpr hz,h5,hp,Gr.mpr hr,Bool.not_false,Gx,hn]
 rfl
theorem jfi {r sz bytes b v len xs ys c}(gI:h[b]?=E3 (.vec sz v xs))(hlen:len≤xs.length)(hl:len+ys.length≤1073741824)(hb:bytes≤4096)(hz:0<sz)(hp:qw 0 ys=Gh)(hr:r<1000):
  oS h0 r sz bytes h (E3 (.ay b v len)) (E3 (.list c sz ys))=E3 ⟨.ay b (v+1) (len+ys.length),Gg,Gc,h.set b (.vec sz (v+1) (xs.take len++ys))⟩:=by
 have hg:zg h b=E3 (.vec sz v xs):=gI
 have bw:=(I.1 gI).1
 simp only[oS,hg,zy,Gw,Iy,cond_true,Ga hlen,Ga hl,Ga hb,Gr.mpr hz,hp,Gr.mpr hr,Gx,jo,Gr.mpr bw]
 rfl
theorem jed {sz b v len i k}(hi:i<len):jY sz h (E3 (.ay b v len)) (E3 (.int k (i:Int)))=E3 ⟨.dH b v (i*sz),Gg,Gc,h⟩:=by
 have:idx len (.int k (i:Int))=E3 i:=by rw[vB];exact LO hi
 simp only[jY,this]
 rfl
@[go_sem] theorem zg4 {n}:qf p xc h0 al e h (.gB n)=E3 ⟨.cT n,Gh,Gc,h⟩:=rfl
def L4 (n:Nat)(h:qh)(x:Option (AVal×Bool))(y:Option AVal):Option bh:=match x,y with
 |some (.cT m,Gh),E3 v=>b3 (Gq m n&&Gq v.flat.length n&&v.flat.all qk) (E3 ⟨.ah v,Gg,Gc,h⟩)
 |_,_=>Gc
theorem q39 {n m v}:L4 n h (E3 (.cT m,Gh)) (E3 v)=b3 (Gq m n&&Gq v.flat.length n&&v.flat.all qk) (E3 ⟨.ah v,Gg,Gc,h⟩):=rfl
@[go_sem] theorem zbc {n v}(hv:(Gq v.flat.length n&&v.flat.all qk)=Gh):L4 n h (E3 (.cT n,Gh)) (E3 v)=E3 ⟨.ah v,Gg,Gc,h⟩:=by
 rw[q39,Gw,Ha,hv];rfl
@[go_sem] theorem zdq {n s x}:qf p xc h0 al e h (.dM n s x)=L4 n h (jj s e) (qi e x):=by
 simp only[qf,qo,L4]
 split
 ·rename_i m v h1 h2
  rw[h1,h2]
  simp only[b3]
  cases (Gq m n&&Gq v.flat.length n&&v.flat.all qk)<;>rfl
 ·rename_i Gl
  split
  ·rename_i m v h1 h2
   exact absurd h2 (Gl m v h1)
  ·rfl
end
end Go.Abs
