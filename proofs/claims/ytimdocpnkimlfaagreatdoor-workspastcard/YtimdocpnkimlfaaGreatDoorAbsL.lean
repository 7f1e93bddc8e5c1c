/- Equations of the executor, third part. -/
import Derived.Test.YtimdocpnkimlfaaGreatDoorAbsJ
set_option linter.unusedVariables false
set_option linter.unusedSimpArgs false
open List renaming getElem?_eq_some_iff→I,set_eq_take_append_cons_drop→Ge,take_of_length_le→Gi,drop_eq_getElem_cons→Gn,drop_append→Gt,take_append→Gx,drop_zero→G9,map_take→Ha,map_drop→Hb,length_cons→He,append_nil→If,map_append→Ig,take_zero→Ik
open Option renaming some→Ga,none→Gd
open Nat renaming ble_eq_true_of_le→Gb,ble→Gj,beq→Gr,blt_eq→Gs,beq_refl→Gy,succ_mul→G7,blt→G8
open Bool renaming false→Gh,true→Gq,and_self→Gz,true_and→Hc,and_eq_true→Hd,true_or→Ix
namespace Go.Abs
section
variable {p:jz}{xc:XC}{h0:Nat}{al:Option (List Nat)}{e:Env}{h:qi}{α:Type}
def D2 {α γ δ:Type}(g:Nat→γ→α→γ⊕δ):Nat→γ→List α→γ⊕δ
 |_,s,[]=>.inl s
 |i,s,x::l=>match g i s x with
  | .inl s'=>D2 g (i+1) s' l
  | .inr d=>.inr d
def jwu {γ δ:Type}(En:γ→jf×aY)(Ex:δ→jf×aY):γ⊕δ→jf×aY
 | .inl s=>En s
 | .inr d=>Ex d
@[simp] theorem zcm {γ δ:Type}{En:γ→jf×aY}{Ex:δ→jf×aY}{s:γ}:jwu En Ex (.inl s)=En s:=rfl
@[simp] theorem zdp {γ δ:Type}{En:γ→jf×aY}{Ex:δ→jf×aY}{s:δ}:jwu En Ex (.inr s)=Ex s:=rfl
theorem jer {c n r}(hr:r.1≠.normal):DZ p c n (Ga r)=Ga r:=by
 obtain⟨x,st⟩:=r
 cases x with
 |normal=>exact absurd rfl hr
 |ret=>rfl
 |exit id=>rfl
theorem jof {n st h'}(hn:n=h.length)(hs:st.heap=h++h')(h1:mP n st.env=Gq)(h2:zn n h=Gq):gc n st=⟨st.env,h⟩:=by
 obtain⟨ev,hp⟩:=st
 simp only at hs h1
 subst hs hn
 unfold gc
 cases h' with
 |nil=>simp
 |cons b h'=>
  have hle:Gj (h++b::h').length h.length=Gh:=by
   rw[nu];simp
  simp only[hle,cond_false,List.take_left',h1,h2,Gz,cond_true]
def Bd (h:qi)(x i:Option AVal):Option bj:=match x,i with
 |some (.str s),Ga j=>(match idx s.length j with
   |some j=>(match s[j]? with
    |some c=>val h (.int .u8 c.toNat)
    |none=>Gd)
   |none=>Gd)
 |_,_=>Gd
@[go_sem] theorem j0f {x i}:qf p xc h0 al e h (.eF x i)=Bd h (qh e x) (qh e i):=by
 simp only[qf,qp,Bd]
 cases qh e x with
 |none=>rfl
 |some v=>cases v with
  |str s=>cases qh e i<;>rfl
  |_=>cases qh e i<;>rfl
theorem jdc {s:List UInt8}{k:IntKind}{i:Nat}{c:UInt8}(hc:s[i]?=Ga c):Bd h (Ga (.str s)) (Ga (.int k (i:Int)))=Ga ⟨.int .u8 c.toNat,Gh,Gd,h⟩:=by
 have hl:i<s.length:=(I.1 hc).1
 have:idx s.length (.int k (i:Int))=Ga i:=by rw[yQ,SH hl]
 simp only[Bd,this,hc,val]
@[go_sem] theorem zk2 {a b}:yu .eql (.str a) (.str b)=Ga (.bool (decide (a=b))):=by
 by_cases nW:a=b<;>simp[yu,Fg,nW]
@[go_sem] theorem zk4 {a b}:yu .neq (.str a) (.str b)=Ga (.bool (!decide (a=b))):=by
 by_cases nW:a=b<;>simp[yu,Fg,nW]
def Tf (h0 r:Nat)(h:qi)(x:Option AVal):Option bj:=match x with
 |some (.str s)=>iA (aS h0 h r (.iter s 0)) (.ptr (h0+r) 0)
 |_=>Gd
@[go_sem] theorem jze {r s}:Tf h0 r h (Ga (.str s))=iA (aS h0 h r (.iter s 0)) (.ptr (h0+r) 0):=rfl
@[go_sem] theorem zhm {r x}:qf p xc h0 al e h (.dK r x)=Tf h0 r h (qh e x):=by
 simp only[qf,qq,Tf]
 cases qh e x with
 |none=>rfl
 |some v=>cases v with
  |str s=>simp only[iA];cases aS h0 h r (.iter s 0)<;>rfl
  |_=>rfl
def vw (h:qi)(b:Nat)(x:Option bh):Option bj:=match x with
 |some (.iter s pos)=>bif G8 pos s.length then iA (jt h b (.iter s (pos+(qn s pos).2))) (.aJ [.bool Gq,.int .i64 pos,.int .i32 (qn s pos).1])else val h (.aJ [.bool Gh])
 |_=>Gd
theorem jjk {b pos s}(hp:pos<s.length):vw h b (Ga (.iter s pos))=iA (jt h b (.iter s (pos+(qn s pos).2))) (.aJ [.bool Gq,.int .i64 pos,.int .i32 (qn s pos).1]):=by
 simp only[vw,vt,hp,decide_true,cond_true]
theorem jdn {b pos s}(hp:¬pos<s.length):vw h b (Ga (.iter s pos))=Ga ⟨.aJ [.bool Gh],Gh,Gd,h⟩:=by
 simp only[vw,vt,hp,decide_false,cond_false,val]
def Tg (h0:Nat)(al:Option (List Nat))(h:qi)(x:Option AVal):Option bj:=match x with
 |some (.ptr b 0)=>cn (za h0 al b) (vw h b h[b]?)
 |_=>Gd
@[go_sem] theorem j1j {b}:Tg h0 al h (Ga (.ptr b 0))=cn (za h0 al b) (vw h b h[b]?):=rfl
@[go_sem] theorem zla {x}:qf p xc h0 al e h (.fD x)=Tg h0 al h (qh e x):=by
 simp only[qf,qq,Tg]
 cases qh e x with
 |none=>rfl
 |some v=>cases v with
  |ptr b o=>
   cases o with
   |succ o=>rfl
   |zero=>
    simp only[cn,zg,vw,iA]
    cases za h0 al b with
    |false=>rfl
    |true=>
     simp only[cond_true]
     cases h[b]? with
     |none=>rfl
     |some x=>cases x with
      |iter s pos=>
       simp only[]
       cases G8 pos s.length with
       |false=>rfl
       |true=>simp only[cond_true];cases jt h b (.iter s (pos+(qn s pos).2))<;>rfl
      |_=>rfl
  |_=>rfl
theorem jev {s i c}(hc:s[i]?=Ga c)(hl:c.toNat<128):qn s i=(c.toNat,1):=by
 have hg:(ByteArray.get! ⟨⟨s⟩⟩ (i+0))=c:=by
  obtain⟨h1,h2⟩:=I.1 hc
  simp[ByteArray.get!,h1,h2]
 simp only[qn,Utf8.decode,hg,hl,if_true]
theorem jc1 {s i c}(hc:s[i]?=Ga c)(hl:¬c.toNat<128):128≤(qn s i).1:=by
 have hg:(ByteArray.get! ⟨⟨s⟩⟩ (i+0))=c:=by
  obtain⟨h1,h2⟩:=I.1 hc
  simp[ByteArray.get!,h1,h2]
 simp only[qn,Utf8.decode,hg,hl,if_false,Utf8.runeError]
 split
 ·split<;>simp<;>omega
 ·split
  ·split
   ·next hh=>simp only[Hd,decide_eq_true_eq]at hh;simp only;omega
   ·decide
  ·split
   ·split
    ·next hh=>simp only[Hd,decide_eq_true_eq]at hh;simp only;omega
    ·decide
   ·decide
def wG (h:qi)(zero:AVal)(r:Option (Option (Nat×AVal))):Option bj:=match r with
 |some (Ga (_,v))=>val h v
 |some Gd=>val h zero
 |none=>Gd
@[go_sem] theorem j23 {z v i}:wG h z (Ga (Ga (i,v)))=Ga ⟨v,Gh,Gd,h⟩:=rfl
@[go_sem] theorem j3z {z}:wG h z (Ga Gd)=Ga ⟨z,Gh,Gd,h⟩:=rfl
def LC (h:qi)(kd:Kd)(z kv:AVal)(x:Option bh):Option bj:=match x with
 |some (.map es)=>wG h z (zd kd kv es 0)
 |_=>Gd
@[go_sem] theorem j9i {kd z kv es}:LC h kd z kv (Ga (.map es))=wG h z (zd kd kv es 0):=rfl
def Ti (h0:Nat)(al:Option (List Nat))(h:qi)(kd:Kd)(z:AVal)(m k:Option AVal):Option bj:=match m,k with
 |some (.map b),Ga kv=>cn (za h0 al b) (LC h kd z kv h[b]?)
 |some .b4,Ga _=>val h z
 |_,_=>Gd
@[go_sem] theorem jyg {kd z kv b}:Ti h0 al h kd z (Ga (.map b)) (Ga kv)=cn (za h0 al b) (LC h kd z kv h[b]?):=rfl
@[go_sem] theorem zf7 {kd z m k}:qf p xc h0 al e h (.lookup kd z Gh m k)=Ti h0 al h kd z (qh e m) (qh e k):=by
 simp only[qf,yi,Ti]
 cases qh e m with
 |none=>cases qh e k<;>rfl
 |some v=>cases qh e k with
  |none=>cases v<;>rfl
  |some kv=>cases v with
   |map b=>
    simp only[cn,zg,LC,wG]
    cases za h0 al b with
    |false=>rfl
    |true=>
     simp only[cond_true]
     cases h[b]? with
     |none=>rfl
     |some x=>cases x with
      |map es=>
       simp only[]
       cases zd kd kv es 0 with
       |none=>rfl
       |some r=>cases r<;>rfl
      |_=>rfl
   |_=>rfl
def D3 (h:qi)(b:Nat)(es:List (AVal×AVal))(kv v:AVal)(r:Option (Option (Nat×AVal))):Option bj:=match r with
 |some (Ga (i,_))=>iA (jt h b (.map (qG es i v))) .undef
 |some Gd=>cn (Gj es.length 1073741824) (iA (jt h b (.map (es++[(kv,v)]))) .undef)
 |none=>Gd
@[go_sem] theorem j9q {b es kv v}:D3 h b es kv v (Ga Gd)=cn (Gj es.length 1073741824) (iA (jt h b (.map (es++[(kv,v)]))) .undef):=rfl
def LD (h:qi)(b:Nat)(kd:Kd)(kv v:AVal)(x:Option bh):Option bj:=match x with
 |some (.map es)=>D3 h b es kv v (zd kd kv es 0)
 |_=>Gd
@[go_sem] theorem zii {b kd kv v es}:LD h b kd kv v (Ga (.map es))=D3 h b es kv v (zd kd kv es 0):=rfl
def Tj (h0:Nat)(al:Option (List Nat))(h:qi)(kd:Kd)(m k x:Option AVal):Option bj:=match m,k,x with
 |some (.map b),Ga kv,Ga v=>cn (za h0 al b) (LD h b kd kv v h[b]?)
 |_,_,_=>Gd
@[go_sem] theorem zkh {b kd kv v}:Tj h0 al h kd (Ga (.map b)) (Ga kv) (Ga v)=cn (za h0 al b) (LD h b kd kv v h[b]?):=rfl
@[go_sem] theorem jyh {kd m k x}:qf p xc h0 al e h (.mapUpdate kd m k x)=Tj h0 al h kd (qh e m) (qh e k) (qh e x):=by
 simp only[qf,qq,Tj]
 cases qh e m with
 |none=>cases qh e k<;>cases qh e x<;>rfl
 |some v=>cases qh e k with
  |none=>cases v<;>cases qh e x<;>rfl
  |some kv=>cases qh e x with
   |none=>cases v<;>rfl
   |some xv=>cases v with
    |map b=>
     simp only[cn,zg,LD,D3,iA]
     cases za h0 al b with
     |false=>rfl
     |true=>
      simp only[cond_true]
      cases h[b]? with
      |none=>rfl
      |some x=>cases x with
       |map es=>
        simp only[]
        cases zd kd kv es 0 with
        |none=>rfl
        |some r=>cases r with
         |none=>
          simp only[]
          cases Gj es.length 1073741824 with
          |false=>rfl
          |true=>simp only[cond_true];cases jt h b (.map (es++[(kv,xv)]))<;>rfl
         |some r=>simp only[];cases jt h b (.map (qG es r.1 xv))<;>rfl
       |_=>rfl
    |_=>rfl
def jfa (agg:Bool)(len sz:Nat)(h:qi)(x i:Option AVal):Option bj:=match x,i with
  |some (.ptr b o),Ga j=>(match idx len j with
   |some j=>val h (.ptr b (o+j*sz))
   |none=>Gd)
  |some (.ai (.agg cs)),Ga j=>(match idx len j with
   |some j=>(match part agg cs (j*sz) sz with
    |some v=>bif Bool.xor agg v.isAgg then Gd else val h (.ai v)
    |none=>Gd)
   |none=>Gd)
  |_,_=>Gd
@[go_sem] theorem j3f {agg len sz x i}:qf p xc h0 al e h (.eX agg len sz x i)=jfa agg len sz h (qh e x) (qh e i):=rfl
end
section
variable {p:jz}{xc:XC}{h0:Nat}{al:Option (List Nat)}{e:Env}{h:qi}{α:Type}
@[go_sem] theorem jya {n s v xs}:pw n (.vec s v xs)=Gq:=rfl
@[go_sem] theorem qt2 {n b v k}:below n (.aj b v k)=decide (b<n):=by
 simp only[below]
 cases hb:G8 b n with
 |true=>simp[Gs.mp hb]
 |false=>
  have:¬b<n:=fun h=>by rw[Gs.mpr h]at hb;cases hb
  simp[this]
def j9 (f:α→AVal)(l:List α):List AVal:=(l.map f).flatMap AVal.flat
theorem zbg {f:α→AVal}:j9 f []=[]:=rfl
theorem wH {f:α→AVal}{x l}:j9 f (x::l)=(f x).flat++j9 f l:=rfl
theorem q45 {f:α→AVal}{l m}:j9 f (l++m)=j9 f l++j9 f m:=by simp[j9]
theorem G6 {f:α→AVal}{sz}(hf:∀x,(f x).flat.length=sz)(l:List α):(j9 f l).length=l.length*sz:=by
 induction l with
 |nil=>simp[j9]
 |cons x l ih=>rw[wH,List.length_append,hf,ih,He,G7];omega
theorem quf {f:α→AVal}{sz}(hf:∀x,(f x).flat.length=sz):∀ {l:List α} {i:Nat},(j9 f l).drop (i*sz)=j9 f (l.drop i)
 | [],i=>by simp[j9]
 |x::l,0=>by simp
 |x::l,i+1=>by
  rw[wH,List.drop_succ_cons,←quf hf,show(i+1)*sz=(f x).flat.length+i*sz by rw[hf,G7];omega,Gt]
  simp
theorem q84 {f:α→AVal}{sz}(hf:∀x,(f x).flat.length=sz):∀ {l:List α} {i:Nat},(j9 f l).take (i*sz)=j9 f (l.take i)
 | [],i=>by simp[j9]
 |x::l,0=>by simp[j9]
 |x::l,i+1=>by
  rw[wH,List.take_succ_cons,wH,←q84 hf,show(i+1)*sz=(f x).flat.length+i*sz by rw[hf,G7];omega,Gx]
  congr 1
  ·exact Gi (by omega)
  ·congr 1;omega
theorem jjp {f:α→AVal}{sz i l x}(hf:∀x,(f x).flat.length=sz)(hx:l[i]?=Ga x):(j9 f l).drop (i*sz)=(f x).flat++j9 f (l.drop (i+1)):=by
 rw[quf hf]
 have bw:=(I.1 hx).1
 rw[Gn bw,wH,(I.1 hx).2]
theorem D4 {f:α→AVal}{sz i o n l x}(hf:∀x,(f x).flat.length=sz)(hx:l[i]?=Ga x)(ho:o+n≤sz):((j9 f l).drop (i*sz+o)).take n=((f x).flat.drop o).take n∧i*sz+o+n≤(j9 f l).length:=by
 have bw:=(I.1 hx).1
 refine⟨?_,?_⟩
 ·rw[←List.drop_drop,jjp hf hx,Gt,Gx]
  have h1:(f x).flat.length=sz:=hf x
  have h2:n-((f x).flat.drop o).length=0:=by rw[List.length_drop];omega
  rw[h2,Ik,If]
 ·rw[G6 hf]
  have:(i+1)*sz≤l.length*sz:=Nat.mul_le_mul_right _ bw
  rw[G7]at this
  omega
theorem qz9 {f:α→AVal}{sz i o l x y us}(hf:∀x,(f x).flat.length=sz)(hx:l[i]?=Ga x)(ho:o+us.length≤sz)(hy:(f y).flat=(f x).flat.take o++us++(f x).flat.drop (o+us.length)):
  (j9 f l).take (i*sz+o)++us++(j9 f l).drop (i*sz+o+us.length)=j9 f (l.set i y):=by
 have bw:=(I.1 hx).1
 have Be:l=l.take i++x::l.drop (i+1):=by
  conv=>lhs;rw[←List.take_append_drop i l,Gn bw,(I.1 hx).2]
 have bF:l.set i y=l.take i++y::l.drop (i+1):=by rw[Ge,if_pos bw]
 have hl:(j9 f (l.take i)).length=i*sz:=by rw[G6 hf,List.length_take,Nat.min_eq_left (by omega)]
 have h1:(f x).flat.length=sz:=hf x
 rw[bF]
 conv=>lhs;rw[Be]
 simp only[q45,wH]
 rw[hy,Gx,Gt,hl]
 have e1:(j9 f (l.take i)).take (i*sz+o)=j9 f (l.take i):=Gi (by omega)
 have e2:(j9 f (l.take i)).drop (i*sz+o+us.length)=[]:=List.drop_eq_nil_of_le (by omega)
 rw[e1,e2,List.nil_append,show i*sz+o-i*sz=o by omega,show i*sz+o+us.length-i*sz=o+us.length by omega,Gx,Gt]
 have e3:o-(f x).flat.length=0:=by omega
 have e4:o+us.length-(f x).flat.length=0:=by omega
 rw[e3,e4,Ik,G9,If]
 simp[List.append_assoc]
def bM (f:α→AVal)(l:List α):List (AVal×Bool):=cellsOf (j9 f l)
theorem z8 {vs}:(cellsOf vs).map (·.1)=vs:=by
 induction vs with
 |nil=>rfl
 |cons v vs ih=>simp only[cellsOf,List.map_cons]at ih ⊢;rw[ih]
theorem j5e {f sz}(hf:∀x,(f x).flat.length=sz)(l:List α):(bM f l).length=l.length*sz:=by simp[bM,cellsOf,G6 hf]
theorem vz {f:α→AVal}{sz i o n l x}(hf:∀x,(f x).flat.length=sz)(hx:l[i]?=Ga x)(ho:o+n≤sz):zi (bM f l) (i*sz+o) n=Ga (((f x).flat.drop o).take n):=by
 obtain⟨h1,h2⟩:=D4 hf hx ho
 unfold zi
 have:(bM f l).length=(j9 f l).length:=by simp[bM,cellsOf]
 rw[this,Gb h2]
 simp only[cond_true,Ga.injEq]
 rw[←h1]
 simp only[bM,Ha,Hb,z8]
theorem zk1 {f:α→AVal}{sz i l x}(hf:∀x,(f x).flat.length=sz)(hx:l[i]?=Ga x):zi (bM f l) (i*sz) sz=Ga (f x).flat:=by
 have:=vz (o:=0) (n:=sz) hf hx (by omega)
 rw[Nat.add_zero,G9,Gi (by rw[hf];exact Nat.le_refl _)]at this
 exact this
theorem mE {f:α→AVal}{sz i o l x y us}(hf:∀x,(f x).flat.length=sz)(hx:l[i]?=Ga x)(ho:o+us.length≤sz)(hs:us.all qk=Gq)(hy:(f y).flat=(f x).flat.take o++us++(f x).flat.drop (o+us.length)):
  jr (bM f l) (i*sz+o) us=Ga (bM f (l.set i y)):=by
 obtain⟨_,h2⟩:=D4 hf hx ho
 unfold jr
 have:(bM f l).length=(j9 f l).length:=by simp[bM,cellsOf]
 rw[this,Gb h2,hs]
 simp only[Gz,cond_true,Ga.injEq]
 rw[show bM f (l.set i y)=cellsOf (j9 f (l.set i y))from rfl,←qz9 hf hx ho hy]
 simp[bM,cellsOf,Ig,Ha,Hb]
theorem q6l {f:α→AVal}{sz i o l x y u}(hf:∀x,(f x).flat.length=sz)(hx:l[i]?=Ga x)(ho:o<sz)(hy:(f y).flat=(f x).flat.set o u):(bM f l).set (i*sz+o) (u,Gh)=bM f (l.set i y):=by
 have hl:(f x).flat.length=sz:=hf x
 have h2:=(D4 (n:=1) (o:=o) hf hx (by omega)).2
 have:=qz9 (us:=[u]) (y:=y) (o:=o) hf hx (by simp;omega) (by rw[hy,Ge,if_pos (show o<(f x).flat.length by omega)];simp)
 rw[show bM f (l.set i y)=cellsOf (j9 f (l.set i y))from rfl,←this]
 simp only[bM,cellsOf,He,List.length_nil]
 rw[Ge,if_pos (by simp;omega)]
 simp[Ig,Ha,Hb]
theorem j15 {f:α→AVal}{sz i o n b v:Nat}{l:List α}{x:α}(hf:∀x,(f x).flat.length=sz)(hb:h[b]?=Ga (.vec sz v (l.map f)))(oL:uQ h0 al b=Gq)(hx:l[i]?=Ga x)(ho:o+n≤sz):
  ki h0 al Gq n h (Ga (.dE b v (i*sz+o)))=Ga ⟨.agg (((f x).flat.drop o).take n),Gh,Gd,h⟩:=by
 obtain⟨h1,h2⟩:=D4 hf hx ho
 have hg:zg h b=Ga (.vec sz v (l.map f)):=hb
 show(bif uQ h0 al b then(match zg h b with
   |some (.vec _ dN xs)=>bif Gr v dN&&Gj (i*sz+o+n) (xs.flatMap AVal.flat).length then(bif Gq then val h (.agg (((xs.flatMap AVal.flat).drop (i*sz+o)).take n))else(match((xs.flatMap AVal.flat).drop (i*sz+o)).take n with
     | [v]=>val h v
     |_=>Gd))else Gd
   |_=>Gd)else Gd)=_
 rw[oL,hg]
 simp only[cond_true,Gy,Hc]
 have h3:Gj (i*sz+o+n) ((l.map f).flatMap AVal.flat).length=Gq:=Gb h2
 rw[h3]
 simp only[cond_true,val]
 have h4:(((l.map f).flatMap AVal.flat).drop (i*sz+o)).take n=((f x).flat.drop o).take n:=h1
 rw[h4]
theorem Tk {f:α→AVal}{sz i b v:Nat}{l:List α}{x:α}(hf:∀x,(f x).flat.length=sz)(hb:h[b]?=Ga (.vec sz v (l.map f)))(oL:uQ h0 al b=Gq)(hx:l[i]?=Ga x):
  ki h0 al Gq sz h (Ga (.dE b v (i*sz)))=Ga ⟨.agg (f x).flat,Gh,Gd,h⟩:=by
 have:=j15 (al:=al) (h0:=h0) (o:=0) (n:=sz) hf hb oL hx (by omega)
 rw[Nat.add_zero,G9,Gi (by rw[hf];exact Nat.le_refl _)]at this
 exact this
theorem jc4 {f:α→AVal}{sz i o b v:Nat}{l:List α}{x:α}{u}(hf:∀x,(f x).flat.length=sz)(hb:h[b]?=Ga (.vec sz v (l.map f)))(oL:uQ h0 al b=Gq)(hx:l[i]?=Ga x)(hu:(f x).flat[o]?=Ga u):
  ki h0 al Gh 1 h (Ga (.dE b v (i*sz+o)))=Ga ⟨u,Gh,Gd,h⟩:=by
 have bw:=(I.1 hu).1
 rw[hf]at bw
 obtain⟨h1,h2⟩:=D4 (n:=1) hf hx (by omega:o+1≤sz)
 have hg:zg h b=Ga (.vec sz v (l.map f)):=hb
 show(bif uQ h0 al b then(match zg h b with
   |some (.vec _ dN xs)=>bif Gr v dN&&Gj (i*sz+o+1) (xs.flatMap AVal.flat).length then(bif Gh then val h (.agg (((xs.flatMap AVal.flat).drop (i*sz+o)).take 1))else(match((xs.flatMap AVal.flat).drop (i*sz+o)).take 1 with
     | [v]=>val h v
     |_=>Gd))else Gd
   |_=>Gd)else Gd)=_
 rw[oL,hg]
 simp only[cond_true,Gy,Hc]
 have h3:Gj (i*sz+o+1) ((l.map f).flatMap AVal.flat).length=Gq:=Gb h2
 have h4:(((l.map f).flatMap AVal.flat).drop (i*sz+o)).take 1=[u]:=by
  show((j9 f l).drop (i*sz+o)).take 1=[u]
  have QX:=(I.1 hu).1
  rw[h1,Gn QX,(I.1 hu).2]
  rfl
 rw[h3,h4]
 rfl
def kB (h0:Nat)(r sz bytes:Nat)(h:qi)(x y:Option AVal):Option bj:=match x,y with
 |some (.list Gq _ []),Ga vy=>(match zw sz vy with
   |some ys=>
    bif Gj ys.length 1073741824&&Gj bytes 4096&&G8 0 sz&&!ys.isEmpty&&qy 0 ys&&G8 r 1000 then
     (match aS h0 h r (.vec sz 0 ys)with
      |some h'=>val h' (.aj (h0+r) 0 ys.length)
      |none=>Gd)else Gd
   |none=>Gd)
 |some (.aj b bL len),Ga vy=>(match zg h b with
  |some (.vec dl dN xs)=>(match zw sz vy with
   |some ys=>
    bif Gr bL dN&&Gr sz dl&&Gj len xs.length&&Gj (len+ys.length) 1073741824&&Gj bytes 4096&&G8 0 sz&&qy 0 ys&&G8 r 1000 then
     (match jt h b (.vec sz (bL+1) (xs.take len++ys))with
      |some h'=>val h' (.aj b (bL+1) (len+ys.length))
      |none=>Gd)else Gd
   |none=>Gd)
  |_=>Gd)
 |_,_=>Gd
@[go_sem] theorem zlw {r sz bytes x y}:qf p xc h0 al e h (.ig r sz bytes x y)=kB h0 r sz bytes h (qh e x) (qh e y):=rfl
theorem LG {r sz z bytes ys b h'}(hl:ys.length≤1073741824)(hb:bytes≤4096)(hz:0<sz)(bI:ys≠[])(hp:qy 0 ys=Gq)(hr:r<1000)(hn:aS h0 h r (.vec sz 0 ys)=Ga h'):kB h0 r sz bytes h (Ga (.list Gq z [])) (Ga (.list b sz ys))=Ga ⟨.aj (h0+r) 0 ys.length,Gh,Gd,h'⟩:=by
 have h5:ys.isEmpty=Gh:=by cases ys<;>simp at bI ⊢
 simp only[kB,zw,Gy,Ix,cond_true,Gb hl,Gb hb,Gs.mpr hz,h5,hp,Gs.mpr hr,Bool.not_false,Gz,hn]
 rfl
theorem jek {r sz bytes b v len xs ys c}(gL:h[b]?=Ga (.vec sz v xs))(hlen:len≤xs.length)(hl:len+ys.length≤1073741824)(hb:bytes≤4096)(hz:0<sz)(hp:qy 0 ys=Gq)(hr:r<1000):
  kB h0 r sz bytes h (Ga (.aj b v len)) (Ga (.list c sz ys))=Ga ⟨.aj b (v+1) (len+ys.length),Gh,Gd,h.set b (.vec sz (v+1) (xs.take len++ys))⟩:=by
 have hg:zg h b=Ga (.vec sz v xs):=gL
 have bw:=(I.1 gL).1
 simp only[kB,hg,zw,Gy,Ix,cond_true,Gb hlen,Gb hl,Gb hb,Gs.mpr hz,hp,Gs.mpr hr,Gz,jt,Gs.mpr bw]
 rfl
theorem je6 {sz b v len i k}(hi:i<len):iU sz h (Ga (.aj b v len)) (Ga (.int k (i:Int)))=Ga ⟨.dE b v (i*sz),Gh,Gd,h⟩:=by
 have:idx len (.int k (i:Int))=Ga i:=by rw[yQ];exact SH hi
 simp only[iU,this]
 rfl
@[go_sem] theorem zbs {n}:qf p xc h0 al e h (.gE n)=Ga ⟨.db n,Gq,Gd,h⟩:=rfl
def LH (n:Nat)(h:qi)(x:Option (AVal×Bool))(y:Option AVal):Option bj:=match x,y with
 |some (.db m,Gq),Ga v=>cn (Gr m n&&Gr v.flat.length n&&v.flat.all qk) (Ga ⟨.ai v,Gh,Gd,h⟩)
 |_,_=>Gd
theorem q4k {n m v}:LH n h (Ga (.db m,Gq)) (Ga v)=cn (Gr m n&&Gr v.flat.length n&&v.flat.all qk) (Ga ⟨.ai v,Gh,Gd,h⟩):=rfl
@[go_sem] theorem za4 {n v}(hv:(Gr v.flat.length n&&v.flat.all qk)=Gq):LH n h (Ga (.db n,Gq)) (Ga v)=Ga ⟨.ai v,Gh,Gd,h⟩:=by
 rw[q4k,Gy,Hc,hv];rfl
@[go_sem] theorem zea {n s x}:qf p xc h0 al e h (.eb n s x)=LH n h (ji s e) (qh e x):=by
 simp only[qf,qp,LH]
 split
 ·rename_i m v h1 h2
  rw[h1,h2]
  simp only[cn]
  cases (Gr m n&&Gr v.flat.length n&&v.flat.all qk)<;>rfl
 ·rename_i Gm
  split
  ·rename_i m v h1 h2
   exact absurd h2 (Gm m v h1)
  ·rfl
end
end Go.Abs
