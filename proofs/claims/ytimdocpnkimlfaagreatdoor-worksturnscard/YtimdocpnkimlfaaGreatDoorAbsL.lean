/- Equations of the executor, third part. -/
import Derived.Test.YtimdocpnkimlfaaGreatDoorAbsJ
set_option linter.unusedVariables false
set_option linter.unusedSimpArgs false
open List renaming getElem?_eq_some_iff→I,set_eq_take_append_cons_drop→Gd,take_of_length_le→Gf,drop_eq_getElem_cons→Gl,drop_append→Gs,take_append→Gt,drop_zero→Gz,map_take→G2,map_drop→G3,length_cons→G6,append_nil→G7,map_append→Ha,take_zero→Hb
open Option renaming some→Es,none→Ga
open Nat renaming ble_eq_true_of_le→E9,ble→Gj,beq→Gn,blt_eq→Gp,beq_refl→Gu,succ_mul→Gx,blt→Gy
open Bool renaming false→Ge,true→Gm,and_self→Gv,true_and→G4,and_eq_true→G5,true_or→H9
namespace Go.Abs
section
variable {p:jz}{xc:XC}{h0:Nat}{al:Option (List Nat)}{e:Env}{h:qh}{α:Type}
def DU {α γ δ:Type}(g:Nat→γ→α→γ⊕δ):Nat→γ→List α→γ⊕δ
 |_,s,[]=>.inl s
 |i,s,x::l=>match g i s x with
  | .inl s'=>DU g (i+1) s' l
  | .inr d=>.inr d
def ju0 {γ δ:Type}(En:γ→je×bf)(Ex:δ→je×bf):γ⊕δ→je×bf
 | .inl s=>En s
 | .inr d=>Ex d
@[simp] theorem zf0 {γ δ:Type}{En:γ→je×bf}{Ex:δ→je×bf}{s:γ}:ju0 En Ex (.inl s)=En s:=rfl
@[simp] theorem zfv {γ δ:Type}{En:γ→je×bf}{Ex:δ→je×bf}{s:δ}:ju0 En Ex (.inr s)=Ex s:=rfl
theorem jdj {c n r}(hr:r.1≠.normal):DR p c n (Es r)=Es r:=by
 obtain⟨x,st⟩:=r
 cases x with
 |normal=>exact absurd rfl hr
 |ret=>rfl
 |exit id=>rfl
theorem jnz {n st h'}(hn:n=h.length)(hs:st.heap=h++h')(h1:mS n st.env=Gm)(h2:zk n h=Gm):gc n st=⟨st.env,h⟩:=by
 obtain⟨ev,hp⟩:=st
 simp only at hs h1
 subst hs hn
 unfold gc
 cases h' with
 |nil=>simp
 |cons b h'=>
  have hle:Gj (h++b::h').length h.length=Ge:=by
   rw[ny];simp
  simp only[hle,cond_false,List.take_left',h1,h2,Gv,cond_true]
def A5 (h:qh)(x i:Option AVal):Option bm:=match x,i with
 |some (.str s),Es j=>(match idx s.length j with
   |some j=>(match s[j]? with
    |some c=>val h (.int .u8 c.toNat)
    |none=>Ga)
   |none=>Ga)
 |_,_=>Ga
@[go_sem] theorem j6s {x i}:qf p xc h0 al e h (.et x i)=A5 h (qi e x) (qi e i):=by
 simp only[qf,qo,A5]
 cases qi e x with
 |none=>rfl
 |some v=>cases v with
  |str s=>cases qi e i<;>rfl
  |_=>cases qi e i<;>rfl
theorem jej {s:List UInt8}{k:IntKind}{i:Nat}{c:UInt8}(hc:s[i]?=Es c):A5 h (Es (.str s)) (Es (.int k (i:Int)))=Es ⟨.int .u8 c.toNat,Ge,Ga,h⟩:=by
 have hl:i<s.length:=(I.1 hc).1
 have:idx s.length (.int k (i:Int))=Es i:=by rw[yE,Sm hl]
 simp only[A5,this,hc,val]
@[go_sem] theorem zj8 {a b}:yq .eql (.str a) (.str b)=Es (.bool (decide (a=b))):=by
 by_cases qD:a=b<;>simp[yq,Fc,qD]
@[go_sem] theorem zj9 {a b}:yq .neq (.str a) (.str b)=Es (.bool (!decide (a=b))):=by
 by_cases qD:a=b<;>simp[yq,Fc,qD]
def SY (h0 r:Nat)(h:qh)(x:Option AVal):Option bm:=match x with
 |some (.str s)=>iz (aS h0 h r (.iter s 0)) (.ptr (h0+r) 0)
 |_=>Ga
@[go_sem] theorem jx1 {r s}:SY h0 r h (Es (.str s))=iz (aS h0 h r (.iter s 0)) (.ptr (h0+r) 0):=rfl
@[go_sem] theorem zaz {r x}:qf p xc h0 al e h (.dE r x)=SY h0 r h (qi e x):=by
 simp only[qf,qp,SY]
 cases qi e x with
 |none=>rfl
 |some v=>cases v with
  |str s=>simp only[iz];cases aS h0 h r (.iter s 0)<;>rfl
  |_=>rfl
def vm (h:qh)(b:Nat)(x:Option bg):Option bm:=match x with
 |some (.iter s pos)=>bif Gy pos s.length then iz (jr h b (.iter s (pos+(qn s pos).2))) (.aI [.bool Gm,.int .i64 pos,.int .i32 (qn s pos).1])else val h (.aI [.bool Ge])
 |_=>Ga
theorem jgt {b pos s}(hp:pos<s.length):vm h b (Es (.iter s pos))=iz (jr h b (.iter s (pos+(qn s pos).2))) (.aI [.bool Gm,.int .i64 pos,.int .i32 (qn s pos).1]):=by
 simp only[vm,vj,hp,decide_true,cond_true]
theorem jcx {b pos s}(hp:¬pos<s.length):vm h b (Es (.iter s pos))=Es ⟨.aI [.bool Ge],Ge,Ga,h⟩:=by
 simp only[vm,vj,hp,decide_false,cond_false,val]
def SZ (h0:Nat)(al:Option (List Nat))(h:qh)(x:Option AVal):Option bm:=match x with
 |some (.ptr b 0)=>cq (j9 h0 al b) (vm h b h[b]?)
 |_=>Ga
@[go_sem] theorem j6p {b}:SZ h0 al h (Es (.ptr b 0))=cq (j9 h0 al b) (vm h b h[b]?):=rfl
@[go_sem] theorem zjw {x}:qf p xc h0 al e h (.fA x)=SZ h0 al h (qi e x):=by
 simp only[qf,qp,SZ]
 cases qi e x with
 |none=>rfl
 |some v=>cases v with
  |ptr b o=>
   cases o with
   |succ o=>rfl
   |zero=>
    simp only[cq,zc,vm,iz]
    cases j9 h0 al b with
    |false=>rfl
    |true=>
     simp only[cond_true]
     cases h[b]? with
     |none=>rfl
     |some x=>cases x with
      |iter s pos=>
       simp only[]
       cases Gy pos s.length with
       |false=>rfl
       |true=>simp only[cond_true];cases jr h b (.iter s (pos+(qn s pos).2))<;>rfl
      |_=>rfl
  |_=>rfl
theorem jdl {s i c}(hc:s[i]?=Es c)(hl:c.toNat<128):qn s i=(c.toNat,1):=by
 have hg:(ByteArray.get! ⟨⟨s⟩⟩ (i+0))=c:=by
  obtain⟨h1,h2⟩:=I.1 hc
  simp[ByteArray.get!,h1,h2]
 simp only[qn,Utf8.decode,hg,hl,if_true]
theorem jeq {s i c}(hc:s[i]?=Es c)(hl:¬c.toNat<128):128≤(qn s i).1:=by
 have hg:(ByteArray.get! ⟨⟨s⟩⟩ (i+0))=c:=by
  obtain⟨h1,h2⟩:=I.1 hc
  simp[ByteArray.get!,h1,h2]
 simp only[qn,Utf8.decode,hg,hl,if_false,Utf8.runeError]
 split
 ·split<;>simp<;>omega
 ·split
  ·split
   ·next hh=>simp only[G5,decide_eq_true_eq]at hh;simp only;omega
   ·decide
  ·split
   ·split
    ·next hh=>simp only[G5,decide_eq_true_eq]at hh;simp only;omega
    ·decide
   ·decide
def wv (h:qh)(zero:AVal)(r:Option (Option (Nat×AVal))):Option bm:=match r with
 |some (Es (_,v))=>val h v
 |some Ga=>val h zero
 |none=>Ga
@[go_sem] theorem j4z {z v i}:wv h z (Es (Es (i,v)))=Es ⟨v,Ge,Ga,h⟩:=rfl
@[go_sem] theorem jzw {z}:wv h z (Es Ga)=Es ⟨z,Ge,Ga,h⟩:=rfl
def Ly (h:qh)(kd:Kd)(z kv:AVal)(x:Option bg):Option bm:=match x with
 |some (.map es)=>wv h z (za kd kv es 0)
 |_=>Ga
@[go_sem] theorem j9b {kd z kv es}:Ly h kd z kv (Es (.map es))=wv h z (za kd kv es 0):=rfl
def S0 (h0:Nat)(al:Option (List Nat))(h:qh)(kd:Kd)(z:AVal)(m k:Option AVal):Option bm:=match m,k with
 |some (.map b),Es kv=>cq (j9 h0 al b) (Ly h kd z kv h[b]?)
 |some .b8,Es _=>val h z
 |_,_=>Ga
@[go_sem] theorem jxz {kd z kv b}:S0 h0 al h kd z (Es (.map b)) (Es kv)=cq (j9 h0 al b) (Ly h kd z kv h[b]?):=rfl
@[go_sem] theorem zfd {kd z m k}:qf p xc h0 al e h (.lookup kd z Ge m k)=S0 h0 al h kd z (qi e m) (qi e k):=by
 simp only[qf,yi,S0]
 cases qi e m with
 |none=>cases qi e k<;>rfl
 |some v=>cases qi e k with
  |none=>cases v<;>rfl
  |some kv=>cases v with
   |map b=>
    simp only[cq,zc,Ly,wv]
    cases j9 h0 al b with
    |false=>rfl
    |true=>
     simp only[cond_true]
     cases h[b]? with
     |none=>rfl
     |some x=>cases x with
      |map es=>
       simp only[]
       cases za kd kv es 0 with
       |none=>rfl
       |some r=>cases r<;>rfl
      |_=>rfl
   |_=>rfl
def DV (h:qh)(b:Nat)(es:List (AVal×AVal))(kv v:AVal)(r:Option (Option (Nat×AVal))):Option bm:=match r with
 |some (Es (i,_))=>iz (jr h b (.map (qB es i v))) .undef
 |some Ga=>cq (Gj es.length 1073741824) (iz (jr h b (.map (es++[(kv,v)]))) .undef)
 |none=>Ga
@[go_sem] theorem j9n {b es kv v}:DV h b es kv v (Es Ga)=cq (Gj es.length 1073741824) (iz (jr h b (.map (es++[(kv,v)]))) .undef):=rfl
def Lz (h:qh)(b:Nat)(kd:Kd)(kv v:AVal)(x:Option bg):Option bm:=match x with
 |some (.map es)=>DV h b es kv v (za kd kv es 0)
 |_=>Ga
@[go_sem] theorem zcy {b kd kv v es}:Lz h b kd kv v (Es (.map es))=DV h b es kv v (za kd kv es 0):=rfl
def S1 (h0:Nat)(al:Option (List Nat))(h:qh)(kd:Kd)(m k x:Option AVal):Option bm:=match m,k,x with
 |some (.map b),Es kv,Es v=>cq (j9 h0 al b) (Lz h b kd kv v h[b]?)
 |_,_,_=>Ga
@[go_sem] theorem za9 {b kd kv v}:S1 h0 al h kd (Es (.map b)) (Es kv) (Es v)=cq (j9 h0 al b) (Lz h b kd kv v h[b]?):=rfl
@[go_sem] theorem jxw {kd m k x}:qf p xc h0 al e h (.mapUpdate kd m k x)=S1 h0 al h kd (qi e m) (qi e k) (qi e x):=by
 simp only[qf,qp,S1]
 cases qi e m with
 |none=>cases qi e k<;>cases qi e x<;>rfl
 |some v=>cases qi e k with
  |none=>cases v<;>cases qi e x<;>rfl
  |some kv=>cases qi e x with
   |none=>cases v<;>rfl
   |some xv=>cases v with
    |map b=>
     simp only[cq,zc,Lz,DV,iz]
     cases j9 h0 al b with
     |false=>rfl
     |true=>
      simp only[cond_true]
      cases h[b]? with
      |none=>rfl
      |some x=>cases x with
       |map es=>
        simp only[]
        cases za kd kv es 0 with
        |none=>rfl
        |some r=>cases r with
         |none=>
          simp only[]
          cases Gj es.length 1073741824 with
          |false=>rfl
          |true=>simp only[cond_true];cases jr h b (.map (es++[(kv,xv)]))<;>rfl
         |some r=>simp only[];cases jr h b (.map (qB es r.1 xv))<;>rfl
       |_=>rfl
    |_=>rfl
def jdc (agg:Bool)(len sz:Nat)(h:qh)(x i:Option AVal):Option bm:=match x,i with
  |some (.ptr b o),Es j=>(match idx len j with
   |some j=>val h (.ptr b (o+j*sz))
   |none=>Ga)
  |some (.ai (.agg cs)),Es j=>(match idx len j with
   |some j=>(match part agg cs (j*sz) sz with
    |some v=>bif Bool.xor agg v.isAgg then Ga else val h (.ai v)
    |none=>Ga)
   |none=>Ga)
  |_,_=>Ga
@[go_sem] theorem j3r {agg len sz x i}:qf p xc h0 al e h (.eS agg len sz x i)=jdc agg len sz h (qi e x) (qi e i):=rfl
end
section
variable {p:jz}{xc:XC}{h0:Nat}{al:Option (List Nat)}{e:Env}{h:qh}{α:Type}
@[go_sem] theorem jt7 {n s v xs}:po n (.vec s v xs)=Gm:=rfl
@[go_sem] theorem qvi {n b v k}:below n (.aj b v k)=decide (b<n):=by
 simp only[below]
 cases hb:Gy b n with
 |true=>simp[Gp.mp hb]
 |false=>
  have:¬b<n:=fun h=>by rw[Gp.mpr h]at hb;cases hb
  simp[this]
def j8 (f:α→AVal)(l:List α):List AVal:=(l.map f).flatMap AVal.flat
theorem j9g {f:α→AVal}:j8 f []=[]:=rfl
theorem wx {f:α→AVal}{x l}:j8 f (x::l)=(f x).flat++j8 f l:=rfl
theorem q4b {f:α→AVal}{l m}:j8 f (l++m)=j8 f l++j8 f m:=by simp[j8]
theorem G1 {f:α→AVal}{sz}(hf:∀x,(f x).flat.length=sz)(l:List α):(j8 f l).length=l.length*sz:=by
 induction l with
 |nil=>simp[j8]
 |cons x l ih=>rw[wx,List.length_append,hf,ih,G6,Gx];omega
theorem qvp {f:α→AVal}{sz}(hf:∀x,(f x).flat.length=sz):∀ {l:List α} {i:Nat},(j8 f l).drop (i*sz)=j8 f (l.drop i)
 | [],i=>by simp[j8]
 |x::l,0=>by simp
 |x::l,i+1=>by
  rw[wx,List.drop_succ_cons,←qvp hf,show(i+1)*sz=(f x).flat.length+i*sz by rw[hf,Gx];omega,Gs]
  simp
theorem q87 {f:α→AVal}{sz}(hf:∀x,(f x).flat.length=sz):∀ {l:List α} {i:Nat},(j8 f l).take (i*sz)=j8 f (l.take i)
 | [],i=>by simp[j8]
 |x::l,0=>by simp[j8]
 |x::l,i+1=>by
  rw[wx,List.take_succ_cons,wx,←q87 hf,show(i+1)*sz=(f x).flat.length+i*sz by rw[hf,Gx];omega,Gt]
  congr 1
  ·exact Gf (by omega)
  ·congr 1;omega
theorem jhv {f:α→AVal}{sz i l x}(hf:∀x,(f x).flat.length=sz)(hx:l[i]?=Es x):(j8 f l).drop (i*sz)=(f x).flat++j8 f (l.drop (i+1)):=by
 rw[qvp hf]
 have bz:=(I.1 hx).1
 rw[Gl bz,wx,(I.1 hx).2]
theorem DW {f:α→AVal}{sz i o n l x}(hf:∀x,(f x).flat.length=sz)(hx:l[i]?=Es x)(ho:o+n≤sz):((j8 f l).drop (i*sz+o)).take n=((f x).flat.drop o).take n∧i*sz+o+n≤(j8 f l).length:=by
 have bz:=(I.1 hx).1
 refine⟨?_,?_⟩
 ·rw[←List.drop_drop,jhv hf hx,Gs,Gt]
  have h1:(f x).flat.length=sz:=hf x
  have h2:n-((f x).flat.drop o).length=0:=by rw[List.length_drop];omega
  rw[h2,Hb,G7]
 ·rw[G1 hf]
  have:(i+1)*sz≤l.length*sz:=Nat.mul_le_mul_right _ bz
  rw[Gx]at this
  omega
theorem qzx {f:α→AVal}{sz i o l x y us}(hf:∀x,(f x).flat.length=sz)(hx:l[i]?=Es x)(ho:o+us.length≤sz)(hy:(f y).flat=(f x).flat.take o++us++(f x).flat.drop (o+us.length)):
  (j8 f l).take (i*sz+o)++us++(j8 f l).drop (i*sz+o+us.length)=j8 f (l.set i y):=by
 have bz:=(I.1 hx).1
 have A6:l=l.take i++x::l.drop (i+1):=by
  conv=>lhs;rw[←List.take_append_drop i l,Gl bz,(I.1 hx).2]
 have bJ:l.set i y=l.take i++y::l.drop (i+1):=by rw[Gd,if_pos bz]
 have hl:(j8 f (l.take i)).length=i*sz:=by rw[G1 hf,List.length_take,Nat.min_eq_left (by omega)]
 have h1:(f x).flat.length=sz:=hf x
 rw[bJ]
 conv=>lhs;rw[A6]
 simp only[q4b,wx]
 rw[hy,Gt,Gs,hl]
 have e1:(j8 f (l.take i)).take (i*sz+o)=j8 f (l.take i):=Gf (by omega)
 have e2:(j8 f (l.take i)).drop (i*sz+o+us.length)=[]:=List.drop_eq_nil_of_le (by omega)
 rw[e1,e2,List.nil_append,show i*sz+o-i*sz=o by omega,show i*sz+o+us.length-i*sz=o+us.length by omega,Gt,Gs]
 have e3:o-(f x).flat.length=0:=by omega
 have e4:o+us.length-(f x).flat.length=0:=by omega
 rw[e3,e4,Hb,Gz,G7]
 simp[List.append_assoc]
def bO (f:α→AVal)(l:List α):List (AVal×Bool):=cellsOf (j8 f l)
theorem zz {vs}:(cellsOf vs).map (·.1)=vs:=by
 induction vs with
 |nil=>rfl
 |cons v vs ih=>simp only[cellsOf,List.map_cons]at ih ⊢;rw[ih]
theorem j5v {f sz}(hf:∀x,(f x).flat.length=sz)(l:List α):(bO f l).length=l.length*sz:=by simp[bO,cellsOf,G1 hf]
theorem vn {f:α→AVal}{sz i o n l x}(hf:∀x,(f x).flat.length=sz)(hx:l[i]?=Es x)(ho:o+n≤sz):zf (bO f l) (i*sz+o) n=Es (((f x).flat.drop o).take n):=by
 obtain⟨h1,h2⟩:=DW hf hx ho
 unfold zf
 have:(bO f l).length=(j8 f l).length:=by simp[bO,cellsOf]
 rw[this,E9 h2]
 simp only[cond_true,Es.injEq]
 rw[←h1]
 simp only[bO,G2,G3,zz]
theorem zjp {f:α→AVal}{sz i l x}(hf:∀x,(f x).flat.length=sz)(hx:l[i]?=Es x):zf (bO f l) (i*sz) sz=Es (f x).flat:=by
 have:=vn (o:=0) (n:=sz) hf hx (by omega)
 rw[Nat.add_zero,Gz,Gf (by rw[hf];exact Nat.le_refl _)]at this
 exact this
theorem mL {f:α→AVal}{sz i o l x y us}(hf:∀x,(f x).flat.length=sz)(hx:l[i]?=Es x)(ho:o+us.length≤sz)(hs:us.all ql=Gm)(hy:(f y).flat=(f x).flat.take o++us++(f x).flat.drop (o+us.length)):
  jo (bO f l) (i*sz+o) us=Es (bO f (l.set i y)):=by
 obtain⟨_,h2⟩:=DW hf hx ho
 unfold jo
 have:(bO f l).length=(j8 f l).length:=by simp[bO,cellsOf]
 rw[this,E9 h2,hs]
 simp only[Gv,cond_true,Es.injEq]
 rw[show bO f (l.set i y)=cellsOf (j8 f (l.set i y))from rfl,←qzx hf hx ho hy]
 simp[bO,cellsOf,Ha,G2,G3]
theorem q6n {f:α→AVal}{sz i o l x y u}(hf:∀x,(f x).flat.length=sz)(hx:l[i]?=Es x)(ho:o<sz)(hy:(f y).flat=(f x).flat.set o u):(bO f l).set (i*sz+o) (u,Ge)=bO f (l.set i y):=by
 have hl:(f x).flat.length=sz:=hf x
 have h2:=(DW (n:=1) (o:=o) hf hx (by omega)).2
 have:=qzx (us:=[u]) (y:=y) (o:=o) hf hx (by simp;omega) (by rw[hy,Gd,if_pos (show o<(f x).flat.length by omega)];simp)
 rw[show bO f (l.set i y)=cellsOf (j8 f (l.set i y))from rfl,←this]
 simp only[bO,cellsOf,G6,List.length_nil]
 rw[Gd,if_pos (by simp;omega)]
 simp[Ha,G2,G3]
theorem j6o {f:α→AVal}{sz i o n b v:Nat}{l:List α}{x:α}(hf:∀x,(f x).flat.length=sz)(hb:h[b]?=Es (.vec sz v (l.map f)))(oM:uG h0 al b=Gm)(hx:l[i]?=Es x)(ho:o+n≤sz):
  y5 h0 al Gm n h (Es (.di b v (i*sz+o)))=Es ⟨.agg (((f x).flat.drop o).take n),Ge,Ga,h⟩:=by
 obtain⟨h1,h2⟩:=DW hf hx ho
 have hg:zc h b=Es (.vec sz v (l.map f)):=hb
 show(bif uG h0 al b then(match zc h b with
   |some (.vec _ dG xs)=>bif Gn v dG&&Gj (i*sz+o+n) (xs.flatMap AVal.flat).length then(bif Gm then val h (.agg (((xs.flatMap AVal.flat).drop (i*sz+o)).take n))else(match((xs.flatMap AVal.flat).drop (i*sz+o)).take n with
     | [v]=>val h v
     |_=>Ga))else Ga
   |_=>Ga)else Ga)=_
 rw[oM,hg]
 simp only[cond_true,Gu,G4]
 have h3:Gj (i*sz+o+n) ((l.map f).flatMap AVal.flat).length=Gm:=E9 h2
 rw[h3]
 simp only[cond_true,val]
 have h4:(((l.map f).flatMap AVal.flat).drop (i*sz+o)).take n=((f x).flat.drop o).take n:=h1
 rw[h4]
theorem LA {f:α→AVal}{sz i b v:Nat}{l:List α}{x:α}(hf:∀x,(f x).flat.length=sz)(hb:h[b]?=Es (.vec sz v (l.map f)))(oM:uG h0 al b=Gm)(hx:l[i]?=Es x):
  y5 h0 al Gm sz h (Es (.di b v (i*sz)))=Es ⟨.agg (f x).flat,Ge,Ga,h⟩:=by
 have:=j6o (al:=al) (h0:=h0) (o:=0) (n:=sz) hf hb oM hx (by omega)
 rw[Nat.add_zero,Gz,Gf (by rw[hf];exact Nat.le_refl _)]at this
 exact this
theorem S2 {f:α→AVal}{sz i o b v:Nat}{l:List α}{x:α}{u}(hf:∀x,(f x).flat.length=sz)(hb:h[b]?=Es (.vec sz v (l.map f)))(oM:uG h0 al b=Gm)(hx:l[i]?=Es x)(hu:(f x).flat[o]?=Es u):
  y5 h0 al Ge 1 h (Es (.di b v (i*sz+o)))=Es ⟨u,Ge,Ga,h⟩:=by
 have bz:=(I.1 hu).1
 rw[hf]at bz
 obtain⟨h1,h2⟩:=DW (n:=1) hf hx (by omega:o+1≤sz)
 have hg:zc h b=Es (.vec sz v (l.map f)):=hb
 show(bif uG h0 al b then(match zc h b with
   |some (.vec _ dG xs)=>bif Gn v dG&&Gj (i*sz+o+1) (xs.flatMap AVal.flat).length then(bif Ge then val h (.agg (((xs.flatMap AVal.flat).drop (i*sz+o)).take 1))else(match((xs.flatMap AVal.flat).drop (i*sz+o)).take 1 with
     | [v]=>val h v
     |_=>Ga))else Ga
   |_=>Ga)else Ga)=_
 rw[oM,hg]
 simp only[cond_true,Gu,G4]
 have h3:Gj (i*sz+o+1) ((l.map f).flatMap AVal.flat).length=Gm:=E9 h2
 have h4:(((l.map f).flatMap AVal.flat).drop (i*sz+o)).take 1=[u]:=by
  show((j8 f l).drop (i*sz+o)).take 1=[u]
  have QF:=(I.1 hu).1
  rw[h1,Gl QF,(I.1 hu).2]
  rfl
 rw[h3,h4]
 rfl
def gL (h0:Nat)(r sz bytes:Nat)(h:qh)(x y:Option AVal):Option bm:=match x,y with
 |some (.list Gm _ []),Es vy=>(match zq sz vy with
   |some ys=>
    bif Gj ys.length 1073741824&&Gj bytes 4096&&Gy 0 sz&&!ys.isEmpty&&qw 0 ys&&Gy r 1000 then
     (match aS h0 h r (.vec sz 0 ys)with
      |some h'=>val h' (.aj (h0+r) 0 ys.length)
      |none=>Ga)else Ga
   |none=>Ga)
 |some (.aj b bN len),Es vy=>(match zc h b with
  |some (.vec dj dG xs)=>(match zq sz vy with
   |some ys=>
    bif Gn bN dG&&Gn sz dj&&Gj len xs.length&&Gj (len+ys.length) 1073741824&&Gj bytes 4096&&Gy 0 sz&&qw 0 ys&&Gy r 1000 then
     (match jr h b (.vec sz (bN+1) (xs.take len++ys))with
      |some h'=>val h' (.aj b (bN+1) (len+ys.length))
      |none=>Ga)else Ga
   |none=>Ga)
  |_=>Ga)
 |_,_=>Ga
@[go_sem] theorem zku {r sz bytes x y}:qf p xc h0 al e h (.ia r sz bytes x y)=gL h0 r sz bytes h (qi e x) (qi e y):=rfl
theorem DX {r sz z bytes ys b h'}(hl:ys.length≤1073741824)(hb:bytes≤4096)(hz:0<sz)(bL:ys≠[])(hp:qw 0 ys=Gm)(hr:r<1000)(hn:aS h0 h r (.vec sz 0 ys)=Es h'):gL h0 r sz bytes h (Es (.list Gm z [])) (Es (.list b sz ys))=Es ⟨.aj (h0+r) 0 ys.length,Ge,Ga,h'⟩:=by
 have h5:ys.isEmpty=Ge:=by cases ys<;>simp at bL ⊢
 simp only[gL,zq,Gu,H9,cond_true,E9 hl,E9 hb,Gp.mpr hz,h5,hp,Gp.mpr hr,Bool.not_false,Gv,hn]
 rfl
theorem jdx {r sz bytes b v len xs ys c}(gG:h[b]?=Es (.vec sz v xs))(hlen:len≤xs.length)(hl:len+ys.length≤1073741824)(hb:bytes≤4096)(hz:0<sz)(hp:qw 0 ys=Gm)(hr:r<1000):
  gL h0 r sz bytes h (Es (.aj b v len)) (Es (.list c sz ys))=Es ⟨.aj b (v+1) (len+ys.length),Ge,Ga,h.set b (.vec sz (v+1) (xs.take len++ys))⟩:=by
 have hg:zc h b=Es (.vec sz v xs):=gG
 have bz:=(I.1 gG).1
 simp only[gL,hg,zq,Gu,H9,cond_true,E9 hlen,E9 hl,E9 hb,Gp.mpr hz,hp,Gp.mpr hr,Gv,jr,Gp.mpr bz]
 rfl
theorem jco {sz b v len i k}(hi:i<len):hH sz h (Es (.aj b v len)) (Es (.int k (i:Int)))=Es ⟨.di b v (i*sz),Ge,Ga,h⟩:=by
 have:idx len (.int k (i:Int))=Es i:=by rw[yE];exact Sm hi
 simp only[hH,this]
 rfl
@[go_sem] theorem zdb {n}:qf p xc h0 al e h (.gy n)=Es ⟨.c8 n,Gm,Ga,h⟩:=rfl
def LB (n:Nat)(h:qh)(x:Option (AVal×Bool))(y:Option AVal):Option bm:=match x,y with
 |some (.c8 m,Gm),Es v=>cq (Gn m n&&Gn v.flat.length n&&v.flat.all ql) (Es ⟨.ai v,Ge,Ga,h⟩)
 |_,_=>Ga
theorem q47 {n m v}:LB n h (Es (.c8 m,Gm)) (Es v)=cq (Gn m n&&Gn v.flat.length n&&v.flat.all ql) (Es ⟨.ai v,Ge,Ga,h⟩):=rfl
@[go_sem] theorem j9y {n v}(hv:(Gn v.flat.length n&&v.flat.all ql)=Gm):LB n h (Es (.c8 n,Gm)) (Es v)=Es ⟨.ai v,Ge,Ga,h⟩:=by
 rw[q47,Gu,G4,hv];rfl
@[go_sem] theorem zjk {n s x}:qf p xc h0 al e h (.dV n s x)=LB n h (ji s e) (qi e x):=by
 simp only[qf,qo,LB]
 split
 ·rename_i m v h1 h2
  rw[h1,h2]
  simp only[cq]
  cases (Gn m n&&Gn v.flat.length n&&v.flat.all ql)<;>rfl
 ·rename_i Gi
  split
  ·rename_i m v h1 h2
   exact absurd h2 (Gi m v h1)
  ·rfl
end
end Go.Abs
