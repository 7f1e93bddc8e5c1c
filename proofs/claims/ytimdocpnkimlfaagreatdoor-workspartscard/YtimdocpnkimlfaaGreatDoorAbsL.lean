/- Equations of the executor, third part. -/
import Derived.Test.YtimdocpnkimlfaaGreatDoorAbsJ
set_option linter.unusedVariables false
set_option linter.unusedSimpArgs false
open List renaming getElem?_eq_some_iff→I,set_eq_take_append_cons_drop→Gq,take_of_length_le→Gt,drop_eq_getElem_cons→Gw,drop_append→G1,take_append→G2,drop_zero→Ha,map_take→Hb,map_drop→Hc,length_cons→Hh,append_nil→Hj,map_append→Hl,take_zero→Hm
open Option renaming some→Ey,none→Gp
open Nat renaming ble_eq_true_of_le→Gn,ble→Gv,beq→Gz,blt_eq→G0,beq_refl→G5,succ_mul→G7,blt→G9
open Bool renaming false→Gs,true→Gy,and_self→G6,true_and→Hd,and_eq_true→He,true_or→Hp
namespace Go.Abs
section
variable {p:zb}{xc:XC}{h0:Nat}{al:Option (List Nat)}{e:Env}{h:qh}{α:Type}
def E3 {α γ δ:Type}(g:Nat→γ→α→γ⊕δ):Nat→γ→List α→γ⊕δ
 |_,s,[]=>.inl s
 |i,s,x::l=>match g i s x with
  | .inl s'=>E3 g (i+1) s' l
  | .inr d=>.inr d
def juk {γ δ:Type}(En:γ→jf×bf)(Ex:δ→jf×bf):γ⊕δ→jf×bf
 | .inl s=>En s
 | .inr d=>Ex d
@[simp] theorem zly {γ δ:Type}{En:γ→jf×bf}{Ex:δ→jf×bf}{s:γ}:juk En Ex (.inl s)=En s:=rfl
@[simp] theorem zjb {γ δ:Type}{En:γ→jf×bf}{Ex:δ→jf×bf}{s:δ}:juk En Ex (.inr s)=Ex s:=rfl
theorem jg6 {c n r}(hr:r.1≠.normal):E0 p c n (Ey r)=Ey r:=by
 obtain⟨x,st⟩:=r
 cases x with
 |normal=>exact absurd rfl hr
 |ret=>rfl
 |exit id=>rfl
theorem jr8 {n st h'}(hn:n=h.length)(hs:st.heap=h++h')(h1:nj n st.env=Gy)(h2:zw n h=Gy):gc n st=⟨st.env,h⟩:=by
 obtain⟨ev,hp⟩:=st
 simp only at hs h1
 subst hs hn
 unfold gc
 cases h' with
 |nil=>simp
 |cons b h'=>
  have hle:Gv (h++b::h').length h.length=Gs:=by
   rw[nK];simp
  simp only[hle,cond_false,List.take_left',h1,h2,G6,cond_true]
def BX (h:qh)(x i:Option AVal):Option bj:=match x,i with
 |some (.str s),Ey j=>(match idx s.length j with
   |some j=>(match s[j]? with
    |some c=>val h (.int .u8 c.toNat)
    |none=>Gp)
   |none=>Gp)
 |_,_=>Gp
@[go_sem] theorem j8r {x i}:qf p xc h0 al e h (.ey x i)=BX h (qi e x) (qi e i):=by
 simp only[qf,qo,BX]
 cases qi e x with
 |none=>rfl
 |some v=>cases v with
  |str s=>cases qi e i<;>rfl
  |_=>cases qi e i<;>rfl
theorem jei {s:List UInt8}{k:IntKind}{i:Nat}{c:UInt8}(hc:s[i]?=Ey c):BX h (Ey (.str s)) (Ey (.int k (i:Int)))=Ey ⟨.int .u8 c.toNat,Gs,Gp,h⟩:=by
 have hl:i<s.length:=(I.1 hc).1
 have:idx s.length (.int k (i:Int))=Ey i:=by rw[zM,WK hl]
 simp only[BX,this,hc,val]
@[go_sem] theorem zmd {a b}:yu .eql (.str a) (.str b)=Ey (.bool (decide (a=b))):=by
 by_cases qP:a=b<;>simp[yu,Gf,qP]
@[go_sem] theorem zl5 {a b}:yu .neq (.str a) (.str b)=Ey (.bool (!decide (a=b))):=by
 by_cases qP:a=b<;>simp[yu,Gf,qP]
def Xi (h0 r:Nat)(h:qh)(x:Option AVal):Option bj:=match x with
 |some (.str s)=>fO (aJ h0 h r (.iter s 0)) (.ptr (h0+r) 0)
 |_=>Gp
@[go_sem] theorem j0t {r s}:Xi h0 r h (Ey (.str s))=fO (aJ h0 h r (.iter s 0)) (.ptr (h0+r) 0):=rfl
@[go_sem] theorem zdw {r x}:qf p xc h0 al e h (.dI r x)=Xi h0 r h (qi e x):=by
 simp only[qf,qp,Xi]
 cases qi e x with
 |none=>rfl
 |some v=>cases v with
  |str s=>simp only[fO];cases aJ h0 h r (.iter s 0)<;>rfl
  |_=>rfl
def vM (h:qh)(b:Nat)(x:Option bh):Option bj:=match x with
 |some (.iter s pos)=>bif G9 pos s.length then fO (jt h b (.iter s (pos+(ql s pos).2))) (.aB [.bool Gy,.int .i64 pos,.int .i32 (ql s pos).1])else val h (.aB [.bool Gs])
 |_=>Gp
theorem jk4 {b pos s}(hp:pos<s.length):vM h b (Ey (.iter s pos))=fO (jt h b (.iter s (pos+(ql s pos).2))) (.aB [.bool Gy,.int .i64 pos,.int .i32 (ql s pos).1]):=by
 simp only[vM,vK,hp,decide_true,cond_true]
theorem jgr {b pos s}(hp:¬pos<s.length):vM h b (Ey (.iter s pos))=Ey ⟨.aB [.bool Gs],Gs,Gp,h⟩:=by
 simp only[vM,vK,hp,decide_false,cond_false,val]
def Xj (h0:Nat)(al:Option (List Nat))(h:qh)(x:Option AVal):Option bj:=match x with
 |some (.ptr b 0)=>cr (zd h0 al b) (vM h b h[b]?)
 |_=>Gp
@[go_sem] theorem j5a {b}:Xj h0 al h (Ey (.ptr b 0))=cr (zd h0 al b) (vM h b h[b]?):=rfl
@[go_sem] theorem zmi {x}:qf p xc h0 al e h (.fJ x)=Xj h0 al h (qi e x):=by
 simp only[qf,qp,Xj]
 cases qi e x with
 |none=>rfl
 |some v=>cases v with
  |ptr b o=>
   cases o with
   |succ o=>rfl
   |zero=>
    simp only[cr,zm,vM,fO]
    cases zd h0 al b with
    |false=>rfl
    |true=>
     simp only[cond_true]
     cases h[b]? with
     |none=>rfl
     |some x=>cases x with
      |iter s pos=>
       simp only[]
       cases G9 pos s.length with
       |false=>rfl
       |true=>simp only[cond_true];cases jt h b (.iter s (pos+(ql s pos).2))<;>rfl
      |_=>rfl
  |_=>rfl
theorem jgn {s i c}(hc:s[i]?=Ey c)(hl:c.toNat<128):ql s i=(c.toNat,1):=by
 have hg:(ByteArray.get! ⟨⟨s⟩⟩ (i+0))=c:=by
  obtain⟨h1,h2⟩:=I.1 hc
  simp[ByteArray.get!,h1,h2]
 simp only[ql,Utf8.decode,hg,hl,if_true]
theorem jel {s i c}(hc:s[i]?=Ey c)(hl:¬c.toNat<128):128≤(ql s i).1:=by
 have hg:(ByteArray.get! ⟨⟨s⟩⟩ (i+0))=c:=by
  obtain⟨h1,h2⟩:=I.1 hc
  simp[ByteArray.get!,h1,h2]
 simp only[ql,Utf8.decode,hg,hl,if_false,Utf8.runeError]
 split
 ·split<;>simp<;>omega
 ·split
  ·split
   ·next hh=>simp only[He,decide_eq_true_eq]at hh;simp only;omega
   ·decide
  ·split
   ·split
    ·next hh=>simp only[He,decide_eq_true_eq]at hh;simp only;omega
    ·decide
   ·decide
def pU (h:qh)(zero:AVal)(r:Option (Option (Nat×AVal))):Option bj:=match r with
 |some (Ey (_,v))=>val h v
 |some Gp=>val h zero
 |none=>Gp
@[go_sem] theorem j4s {z v i}:pU h z (Ey (Ey (i,v)))=Ey ⟨v,Gs,Gp,h⟩:=rfl
@[go_sem] theorem j9v {z}:pU h z (Ey Gp)=Ey ⟨z,Gs,Gp,h⟩:=rfl
def M4 (h:qh)(kd:Kd)(z kv:AVal)(x:Option bh):Option bj:=match x with
 |some (.map es)=>pU h z (jq kd kv es 0)
 |_=>Gp
@[go_sem] theorem za0 {kd z kv es}:M4 h kd z kv (Ey (.map es))=pU h z (jq kd kv es 0):=rfl
def Xk (h0:Nat)(al:Option (List Nat))(h:qh)(kd:Kd)(z:AVal)(m k:Option AVal):Option bj:=match m,k with
 |some (.map b),Ey kv=>cr (zd h0 al b) (M4 h kd z kv h[b]?)
 |some .bY,Ey _=>val h z
 |_,_=>Gp
@[go_sem] theorem j0r {kd z kv b}:Xk h0 al h kd z (Ey (.map b)) (Ey kv)=cr (zd h0 al b) (M4 h kd z kv h[b]?):=rfl
@[go_sem] theorem zje {kd z m k}:qf p xc h0 al e h (.lookup kd z Gs m k)=Xk h0 al h kd z (qi e m) (qi e k):=by
 simp only[qf,ym,Xk]
 cases qi e m with
 |none=>cases qi e k<;>rfl
 |some v=>cases qi e k with
  |none=>cases v<;>rfl
  |some kv=>cases v with
   |map b=>
    simp only[cr,zm,M4,pU]
    cases zd h0 al b with
    |false=>rfl
    |true=>
     simp only[cond_true]
     cases h[b]? with
     |none=>rfl
     |some x=>cases x with
      |map es=>
       simp only[]
       cases jq kd kv es 0 with
       |none=>rfl
       |some r=>cases r<;>rfl
      |_=>rfl
   |_=>rfl
def pV (h:qh)(b:Nat)(es:List (AVal×AVal))(kv v:AVal)(r:Option (Option (Nat×AVal))):Option bj:=match r with
 |some (Ey (i,_))=>fO (jt h b (.map (pH es i v))) .undef
 |some Gp=>cr (Gv es.length 1073741824) (fO (jt h b (.map (es++[(kv,v)]))) .undef)
 |none=>Gp
@[go_sem] theorem zbw {b es kv v}:pV h b es kv v (Ey Gp)=cr (Gv es.length 1073741824) (fO (jt h b (.map (es++[(kv,v)]))) .undef):=rfl
def M5 (h:qh)(b:Nat)(kd:Kd)(kv v:AVal)(x:Option bh):Option bj:=match x with
 |some (.map es)=>pV h b es kv v (jq kd kv es 0)
 |_=>Gp
@[go_sem] theorem zgs {b kd kv v es}:M5 h b kd kv v (Ey (.map es))=pV h b es kv v (jq kd kv es 0):=rfl
def Xl (h0:Nat)(al:Option (List Nat))(h:qh)(kd:Kd)(m k x:Option AVal):Option bj:=match m,k,x with
 |some (.map b),Ey kv,Ey v=>cr (zd h0 al b) (M5 h b kd kv v h[b]?)
 |_,_,_=>Gp
@[go_sem] theorem zia {b kd kv v}:Xl h0 al h kd (Ey (.map b)) (Ey kv) (Ey v)=cr (zd h0 al b) (M5 h b kd kv v h[b]?):=rfl
@[go_sem] theorem jz0 {kd m k x}:qf p xc h0 al e h (.mapUpdate kd m k x)=Xl h0 al h kd (qi e m) (qi e k) (qi e x):=by
 simp only[qf,qp,Xl]
 cases qi e m with
 |none=>cases qi e k<;>cases qi e x<;>rfl
 |some v=>cases qi e k with
  |none=>cases v<;>cases qi e x<;>rfl
  |some kv=>cases qi e x with
   |none=>cases v<;>rfl
   |some xv=>cases v with
    |map b=>
     simp only[cr,zm,M5,pV,fO]
     cases zd h0 al b with
     |false=>rfl
     |true=>
      simp only[cond_true]
      cases h[b]? with
      |none=>rfl
      |some x=>cases x with
       |map es=>
        simp only[]
        cases jq kd kv es 0 with
        |none=>rfl
        |some r=>cases r with
         |none=>
          simp only[]
          cases Gv es.length 1073741824 with
          |false=>rfl
          |true=>simp only[cond_true];cases jt h b (.map (es++[(kv,xv)]))<;>rfl
         |some r=>simp only[];cases jt h b (.map (pH es r.1 xv))<;>rfl
       |_=>rfl
    |_=>rfl
def jej (agg:Bool)(len sz:Nat)(h:qh)(x i:Option AVal):Option bj:=match x,i with
  |some (.ptr b o),Ey j=>(match idx len j with
   |some j=>val h (.ptr b (o+j*sz))
   |none=>Gp)
  |some (.ah (.agg cs)),Ey j=>(match idx len j with
   |some j=>(match part agg cs (j*sz) sz with
    |some v=>bif Bool.xor agg v.isAgg then Gp else val h (.ah v)
    |none=>Gp)
   |none=>Gp)
  |_,_=>Gp
@[go_sem] theorem j30 {agg len sz x i}:qf p xc h0 al e h (.eY agg len sz x i)=jej agg len sz h (qi e x) (qi e i):=rfl
end
section
variable {p:zb}{xc:XC}{h0:Nat}{al:Option (List Nat)}{e:Env}{h:qh}{α:Type}
@[go_sem] theorem jxi {n s v xs}:pF n (.vec s v xs)=Gy:=rfl
@[go_sem] theorem jdd {n b v k}:below n (.aw b v k)=decide (b<n):=by
 simp only[below]
 cases hb:G9 b n with
 |true=>simp[G0.mp hb]
 |false=>
  have:¬b<n:=fun h=>by rw[G0.mpr h]at hb;cases hb
  simp[this]
def ze (f:α→AVal)(l:List α):List AVal:=(l.map f).flatMap AVal.flat
theorem za7 {f:α→AVal}:ze f []=[]:=rfl
theorem wV {f:α→AVal}{x l}:ze f (x::l)=(f x).flat++ze f l:=rfl
theorem q5l {f:α→AVal}{l m}:ze f (l++m)=ze f l++ze f m:=by simp[ze]
theorem H9 {f:α→AVal}{sz}(hf:∀x,(f x).flat.length=sz)(l:List α):(ze f l).length=l.length*sz:=by
 induction l with
 |nil=>simp[ze]
 |cons x l ih=>rw[wV,List.length_append,hf,ih,Hh,G7];omega
theorem qvv {f:α→AVal}{sz}(hf:∀x,(f x).flat.length=sz):∀ {l:List α} {i:Nat},(ze f l).drop (i*sz)=ze f (l.drop i)
 | [],i=>by simp[ze]
 |x::l,0=>by simp
 |x::l,i+1=>by
  rw[wV,List.drop_succ_cons,←qvv hf,show(i+1)*sz=(f x).flat.length+i*sz by rw[hf,G7];omega,G1]
  simp
theorem jdb {f:α→AVal}{sz}(hf:∀x,(f x).flat.length=sz):∀ {l:List α} {i:Nat},(ze f l).take (i*sz)=ze f (l.take i)
 | [],i=>by simp[ze]
 |x::l,0=>by simp[ze]
 |x::l,i+1=>by
  rw[wV,List.take_succ_cons,wV,←jdb hf,show(i+1)*sz=(f x).flat.length+i*sz by rw[hf,G7];omega,G2]
  congr 1
  ·exact Gt (by omega)
  ·congr 1;omega
theorem jhu {f:α→AVal}{sz i l x}(hf:∀x,(f x).flat.length=sz)(hx:l[i]?=Ey x):(ze f l).drop (i*sz)=(f x).flat++ze f (l.drop (i+1)):=by
 rw[qvv hf]
 have br:=(I.1 hx).1
 rw[Gw br,wV,(I.1 hx).2]
theorem E4 {f:α→AVal}{sz i o n l x}(hf:∀x,(f x).flat.length=sz)(hx:l[i]?=Ey x)(ho:o+n≤sz):((ze f l).drop (i*sz+o)).take n=((f x).flat.drop o).take n∧i*sz+o+n≤(ze f l).length:=by
 have br:=(I.1 hx).1
 refine⟨?_,?_⟩
 ·rw[←List.drop_drop,jhu hf hx,G1,G2]
  have h1:(f x).flat.length=sz:=hf x
  have h2:n-((f x).flat.drop o).length=0:=by rw[List.length_drop];omega
  rw[h2,Hm,Hj]
 ·rw[H9 hf]
  have:(i+1)*sz≤l.length*sz:=Nat.mul_le_mul_right _ br
  rw[G7]at this
  omega
theorem q0h {f:α→AVal}{sz i o l x y us}(hf:∀x,(f x).flat.length=sz)(hx:l[i]?=Ey x)(ho:o+us.length≤sz)(hy:(f y).flat=(f x).flat.take o++us++(f x).flat.drop (o+us.length)):
  (ze f l).take (i*sz+o)++us++(ze f l).drop (i*sz+o+us.length)=ze f (l.set i y):=by
 have br:=(I.1 hx).1
 have BZ:l=l.take i++x::l.drop (i+1):=by
  conv=>lhs;rw[←List.take_append_drop i l,Gw br,(I.1 hx).2]
 have bw:l.set i y=l.take i++y::l.drop (i+1):=by rw[Gq,if_pos br]
 have hl:(ze f (l.take i)).length=i*sz:=by rw[H9 hf,List.length_take,Nat.min_eq_left (by omega)]
 have h1:(f x).flat.length=sz:=hf x
 rw[bw]
 conv=>lhs;rw[BZ]
 simp only[q5l,wV]
 rw[hy,G2,G1,hl]
 have e1:(ze f (l.take i)).take (i*sz+o)=ze f (l.take i):=Gt (by omega)
 have e2:(ze f (l.take i)).drop (i*sz+o+us.length)=[]:=List.drop_eq_nil_of_le (by omega)
 rw[e1,e2,List.nil_append,show i*sz+o-i*sz=o by omega,show i*sz+o+us.length-i*sz=o+us.length by omega,G2,G1]
 have e3:o-(f x).flat.length=0:=by omega
 have e4:o+us.length-(f x).flat.length=0:=by omega
 rw[e3,e4,Hm,Ha,Hj]
 simp[List.append_assoc]
def bJ (f:α→AVal)(l:List α):List (AVal×Bool):=cellsOf (ze f l)
theorem yc {vs}:(cellsOf vs).map (·.1)=vs:=by
 induction vs with
 |nil=>rfl
 |cons v vs ih=>simp only[cellsOf,List.map_cons]at ih ⊢;rw[ih]
theorem j9m {f sz}(hf:∀x,(f x).flat.length=sz)(l:List α):(bJ f l).length=l.length*sz:=by simp[bJ,cellsOf,H9 hf]
theorem vN {f:α→AVal}{sz i o n l x}(hf:∀x,(f x).flat.length=sz)(hx:l[i]?=Ey x)(ho:o+n≤sz):zn (bJ f l) (i*sz+o) n=Ey (((f x).flat.drop o).take n):=by
 obtain⟨h1,h2⟩:=E4 hf hx ho
 unfold zn
 have:(bJ f l).length=(ze f l).length:=by simp[bJ,cellsOf]
 rw[this,Gn h2]
 simp only[cond_true,Ey.injEq]
 rw[←h1]
 simp only[bJ,Hb,Hc,yc]
theorem zl7 {f:α→AVal}{sz i l x}(hf:∀x,(f x).flat.length=sz)(hx:l[i]?=Ey x):zn (bJ f l) (i*sz) sz=Ey (f x).flat:=by
 have:=vN (o:=0) (n:=sz) hf hx (by omega)
 rw[Nat.add_zero,Ha,Gt (by rw[hf];exact Nat.le_refl _)]at this
 exact this
theorem mO {f:α→AVal}{sz i o l x y us}(hf:∀x,(f x).flat.length=sz)(hx:l[i]?=Ey x)(ho:o+us.length≤sz)(hs:us.all qk=Gy)(hy:(f y).flat=(f x).flat.take o++us++(f x).flat.drop (o+us.length)):
  jw (bJ f l) (i*sz+o) us=Ey (bJ f (l.set i y)):=by
 obtain⟨_,h2⟩:=E4 hf hx ho
 unfold jw
 have:(bJ f l).length=(ze f l).length:=by simp[bJ,cellsOf]
 rw[this,Gn h2,hs]
 simp only[G6,cond_true,Ey.injEq]
 rw[show bJ f (l.set i y)=cellsOf (ze f (l.set i y))from rfl,←q0h hf hx ho hy]
 simp[bJ,cellsOf,Hl,Hb,Hc]
theorem q7c {f:α→AVal}{sz i o l x y u}(hf:∀x,(f x).flat.length=sz)(hx:l[i]?=Ey x)(ho:o<sz)(hy:(f y).flat=(f x).flat.set o u):(bJ f l).set (i*sz+o) (u,Gs)=bJ f (l.set i y):=by
 have hl:(f x).flat.length=sz:=hf x
 have h2:=(E4 (n:=1) (o:=o) hf hx (by omega)).2
 have:=q0h (us:=[u]) (y:=y) (o:=o) hf hx (by simp;omega) (by rw[hy,Gq,if_pos (show o<(f x).flat.length by omega)];simp)
 rw[show bJ f (l.set i y)=cellsOf (ze f (l.set i y))from rfl,←this]
 simp only[bJ,cellsOf,Hh,List.length_nil]
 rw[Gq,if_pos (by simp;omega)]
 simp[Hl,Hb,Hc]
theorem j2e {f:α→AVal}{sz i o n b v:Nat}{l:List α}{x:α}(hf:∀x,(f x).flat.length=sz)(hb:h[b]?=Ey (.vec sz v (l.map f)))(oY:vh h0 al b=Gy)(hx:l[i]?=Ey x)(ho:o+n≤sz):
  gC h0 al Gy n h (Ey (.dQ b v (i*sz+o)))=Ey ⟨.agg (((f x).flat.drop o).take n),Gs,Gp,h⟩:=by
 obtain⟨h1,h2⟩:=E4 hf hx ho
 have hg:zm h b=Ey (.vec sz v (l.map f)):=hb
 show(bif vh h0 al b then(match zm h b with
   |some (.vec _ dK xs)=>bif Gz v dK&&Gv (i*sz+o+n) (xs.flatMap AVal.flat).length then(bif Gy then val h (.agg (((xs.flatMap AVal.flat).drop (i*sz+o)).take n))else(match((xs.flatMap AVal.flat).drop (i*sz+o)).take n with
     | [v]=>val h v
     |_=>Gp))else Gp
   |_=>Gp)else Gp)=_
 rw[oY,hg]
 simp only[cond_true,G5,Hd]
 have h3:Gv (i*sz+o+n) ((l.map f).flatMap AVal.flat).length=Gy:=Gn h2
 rw[h3]
 simp only[cond_true,val]
 have h4:(((l.map f).flatMap AVal.flat).drop (i*sz+o)).take n=((f x).flat.drop o).take n:=h1
 rw[h4]
theorem jen {f:α→AVal}{sz i b v:Nat}{l:List α}{x:α}(hf:∀x,(f x).flat.length=sz)(hb:h[b]?=Ey (.vec sz v (l.map f)))(oY:vh h0 al b=Gy)(hx:l[i]?=Ey x):
  gC h0 al Gy sz h (Ey (.dQ b v (i*sz)))=Ey ⟨.agg (f x).flat,Gs,Gp,h⟩:=by
 have:=j2e (al:=al) (h0:=h0) (o:=0) (n:=sz) hf hb oY hx (by omega)
 rw[Nat.add_zero,Ha,Gt (by rw[hf];exact Nat.le_refl _)]at this
 exact this
theorem jxq {f:α→AVal}{sz i o b v:Nat}{l:List α}{x:α}{u}(hf:∀x,(f x).flat.length=sz)(hb:h[b]?=Ey (.vec sz v (l.map f)))(oY:vh h0 al b=Gy)(hx:l[i]?=Ey x)(hu:(f x).flat[o]?=Ey u):
  gC h0 al Gs 1 h (Ey (.dQ b v (i*sz+o)))=Ey ⟨u,Gs,Gp,h⟩:=by
 have br:=(I.1 hu).1
 rw[hf]at br
 obtain⟨h1,h2⟩:=E4 (n:=1) hf hx (by omega:o+1≤sz)
 have hg:zm h b=Ey (.vec sz v (l.map f)):=hb
 show(bif vh h0 al b then(match zm h b with
   |some (.vec _ dK xs)=>bif Gz v dK&&Gv (i*sz+o+1) (xs.flatMap AVal.flat).length then(bif Gs then val h (.agg (((xs.flatMap AVal.flat).drop (i*sz+o)).take 1))else(match((xs.flatMap AVal.flat).drop (i*sz+o)).take 1 with
     | [v]=>val h v
     |_=>Gp))else Gp
   |_=>Gp)else Gp)=_
 rw[oY,hg]
 simp only[cond_true,G5,Hd]
 have h3:Gv (i*sz+o+1) ((l.map f).flatMap AVal.flat).length=Gy:=Gn h2
 have h4:(((l.map f).flatMap AVal.flat).drop (i*sz+o)).take 1=[u]:=by
  show((ze f l).drop (i*sz+o)).take 1=[u]
  have Vb:=(I.1 hu).1
  rw[h1,Gw Vb,(I.1 hu).2]
  rfl
 rw[h3,h4]
 rfl
def pf (h0:Nat)(r sz bytes:Nat)(h:qh)(x y:Option AVal):Option bj:=match x,y with
 |some (.list Gy _ []),Ey vy=>(match z7 sz vy with
   |some ys=>
    bif Gv ys.length 1073741824&&Gv bytes 4096&&G9 0 sz&&!ys.isEmpty&&qx 0 ys&&G9 r 1000 then
     (match aJ h0 h r (.vec sz 0 ys)with
      |some h'=>val h' (.aw (h0+r) 0 ys.length)
      |none=>Gp)else Gp
   |none=>Gp)
 |some (.aw b bG len),Ey vy=>(match zm h b with
  |some (.vec dq dK xs)=>(match z7 sz vy with
   |some ys=>
    bif Gz bG dK&&Gz sz dq&&Gv len xs.length&&Gv (len+ys.length) 1073741824&&Gv bytes 4096&&G9 0 sz&&qx 0 ys&&G9 r 1000 then
     (match jt h b (.vec sz (bG+1) (xs.take len++ys))with
      |some h'=>val h' (.aw b (bG+1) (len+ys.length))
      |none=>Gp)else Gp
   |none=>Gp)
  |_=>Gp)
 |_,_=>Gp
@[go_sem] theorem zm4 {r sz bytes x y}:qf p xc h0 al e h (.il r sz bytes x y)=pf h0 r sz bytes h (qi e x) (qi e y):=rfl
theorem q6v {r sz z bytes ys b h'}(hl:ys.length≤1073741824)(hb:bytes≤4096)(hz:0<sz)(bB:ys≠[])(hp:qx 0 ys=Gy)(hr:r<1000)(hn:aJ h0 h r (.vec sz 0 ys)=Ey h'):pf h0 r sz bytes h (Ey (.list Gy z [])) (Ey (.list b sz ys))=Ey ⟨.aw (h0+r) 0 ys.length,Gs,Gp,h'⟩:=by
 have h5:ys.isEmpty=Gs:=by cases ys<;>simp at bB ⊢
 simp only[pf,z7,G5,Hp,cond_true,Gn hl,Gn hb,G0.mpr hz,h5,hp,G0.mpr hr,Bool.not_false,G6,hn]
 rfl
theorem jef {r sz bytes b v len xs ys c}(gP:h[b]?=Ey (.vec sz v xs))(hlen:len≤xs.length)(hl:len+ys.length≤1073741824)(hb:bytes≤4096)(hz:0<sz)(hp:qx 0 ys=Gy)(hr:r<1000):
  pf h0 r sz bytes h (Ey (.aw b v len)) (Ey (.list c sz ys))=Ey ⟨.aw b (v+1) (len+ys.length),Gs,Gp,h.set b (.vec sz (v+1) (xs.take len++ys))⟩:=by
 have hg:zm h b=Ey (.vec sz v xs):=gP
 have br:=(I.1 gP).1
 simp only[pf,hg,z7,G5,Hp,cond_true,Gn hlen,Gn hl,Gn hb,G0.mpr hz,hp,G0.mpr hr,G6,jt,G0.mpr br]
 rfl
theorem jex {sz b v len i k}(hi:i<len):kF sz h (Ey (.aw b v len)) (Ey (.int k (i:Int)))=Ey ⟨.dQ b v (i*sz),Gs,Gp,h⟩:=by
 have:idx len (.int k (i:Int))=Ey i:=by rw[zM];exact WK hi
 simp only[kF,this]
 rfl
@[go_sem] theorem zeg {n}:qf p xc h0 al e h (.gI n)=Ey ⟨.dc n,Gy,Gp,h⟩:=rfl
def M6 (n:Nat)(h:qh)(x:Option (AVal×Bool))(y:Option AVal):Option bj:=match x,y with
 |some (.dc m,Gy),Ey v=>cr (Gz m n&&Gz v.flat.length n&&v.flat.all qk) (Ey ⟨.ah v,Gs,Gp,h⟩)
 |_,_=>Gp
theorem q4v {n m v}:M6 n h (Ey (.dc m,Gy)) (Ey v)=cr (Gz m n&&Gz v.flat.length n&&v.flat.all qk) (Ey ⟨.ah v,Gs,Gp,h⟩):=rfl
@[go_sem] theorem zbg {n v}(hv:(Gz v.flat.length n&&v.flat.all qk)=Gy):M6 n h (Ey (.dc n,Gy)) (Ey v)=Ey ⟨.ah v,Gs,Gp,h⟩:=by
 rw[q4v,G5,Hd,hv];rfl
@[go_sem] theorem zea {n s x}:qf p xc h0 al e h (.dV n s x)=M6 n h (jj s e) (qi e x):=by
 simp only[qf,qo,M6]
 split
 ·rename_i m v h1 h2
  rw[h1,h2]
  simp only[cr]
  cases (Gz m n&&Gz v.flat.length n&&v.flat.all qk)<;>rfl
 ·rename_i Hu
  split
  ·rename_i m v h1 h2
   exact absurd h2 (Hu m v h1)
  ·rfl
end
end Go.Abs
