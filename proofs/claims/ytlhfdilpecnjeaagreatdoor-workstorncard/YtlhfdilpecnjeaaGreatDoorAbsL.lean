/- Equations of the executor, third part. -/
import Derived.Test.YtlhfdilpecnjeaaGreatDoorAbsJ
set_option linter.unusedVariables false
set_option linter.unusedSimpArgs false
open List renaming getElem?_eq_some_iff->E6,set_eq_take_append_cons_drop->H2,drop_eq_getElem_cons->H8,drop_append->Ic,take_append->Ij,take_of_length_le->Il,map_take->Io,map_drop->Ip,length_cons->Iy,append_nil->I1,map_append->I2,take_zero->I3,drop_zero->I5
open Option renaming some->Ha,none->Hc
open Nat renaming ble_eq_true_of_le->Hb,ble->H4,beq->Ia,blt_eq->Ib,beq_refl->If,blt->Ik,succ_mul->Iw
open Bool renaming false->H3,true->H9,and_self->Ig,true_and->Iq,and_eq_true->Ix,true_or->I6
namespace Go.Abs
section
variable {p:j8}{xc:XC}{h0:Nat}{al:ak Nat}{e:Env}{h:qf}{α:Type}
def F1 {α γ δ:Type}(g:Nat->γ->α->γ⊕δ):Nat->γ->List α->γ⊕δ
 |_,s,[]=>.inl s
 |i,s,x::l=>match g i s x with
  | .inl s'=>F1 g (i+1) s' l| .inr d=>.inr d
def j14 {γ δ:Type}(En:γ->jb×bn)(Ex:δ->jb×bn):γ⊕δ->jb×bn
 | .inl s=>En s| .inr d=>Ex d
@[simp] theorem zid {γ δ:Type}{En:γ->jb×bn}{Ex:δ->jb×bn}{s:γ}:j14 En Ex (.inl s)=En s:=rfl
@[simp] theorem zek {γ δ:Type}{En:γ->jb×bn}{Ex:δ->jb×bn}{s:δ}:j14 En Ex (.inr s)=Ex s:=rfl
theorem jiv {c n r}(Q:r.1≠.normal):FY p c n (Ha r)=Ha r:=by
 obtain⟨x,st⟩:=r
 cases x with
 |normal=>exact absurd rfl Q|ret=>rfl|exit id=>rfl
theorem jsh {n st h'}(hn:n=h.length)(G:st.heap=h++h')(Y:mF n st.env=H9)(I:qr n h=H9):gc n st=⟨st.env,h⟩:=by
 obtain⟨ev,hp⟩:=st;simp only at G Y;subst G hn;unfold gc
 cases h' with
 |nil=>simp
 |cons b h'=>
  have hle:H4 (h++b::h').length h.length=H3:=by
   rw[nB];simp
  simp only[hle,cond_false,List.take_left',Y,I,Ig,cond_true]
def Bv (h:qf)(x i:Option AVal):Option bu:=match x,i with
 |some (.str s),Ha j=>(match idx s.length j with
   |some j=>(match s[j]? with
    |some c=>val h (.int .u8 c.toNat)
    |none=>Hc)
   |none=>Hc)
 |_,_=>Hc
@[go_sem] theorem j8m {x i}:qe p xc h0 al e h (.dH x i)=Bv h (qh e x) (qh e i):=by
 simp only[qe,ql,Bv]
 cases qh e x with
 |none=>rfl
 |some v=>cases v with
  |str s=>cases qh e i<;>rfl|_=>cases qh e i<;>rfl
theorem jhg {s:aj}{k:IntKind}{i:Nat}{c:UInt8}(hc:s[i]?=Ha c):Bv h (Ha (.str s)) (Ha (.int k (i:Int)))=Ha ⟨.int .u8 c.toNat,H3,Hc,h⟩:=by
 have hl:i<s.length:=(E6.1 hc).1
 have:idx s.length (.int k (i:Int))=Ha i:=by rw[vd,N6 hl]
 simp only[Bv,this,hc,val]
@[go_sem] theorem zkr {a b}:yf .eql (.str a) (.str b)=Ha (.bool (decide (a=b))):=by
 by_cases mI:a=b<;>simp[yf,Fo,mI]
@[go_sem] theorem zlf {a b}:yf .neq (.str a) (.str b)=Ha (.bool (!decide (a=b))):=by
 by_cases mI:a=b<;>simp[yf,Fo,mI]
def VA (h0 r:Nat)(h:qf)(x:Option AVal):Option bu:=match x with
 |some (.str s)=>iA (aO h0 h r (.iter s 0)) (.ptr (h0+r) 0)|_=>Hc
@[go_sem] theorem j3r {r s}:VA h0 r h (Ha (.str s))=iA (aO h0 h r (.iter s 0)) (.ptr (h0+r) 0):=rfl
@[go_sem] theorem zco {r x}:qe p xc h0 al e h (.dB r x)=VA h0 r h (qh e x):=by
 simp only[qe,qn,VA]
 cases qh e x with
 |none=>rfl
 |some v=>cases v with
  |str s=>simp only[iA];cases aO h0 h r (.iter s 0)<;>rfl|_=>rfl
def vi (h:qf)(b:Nat)(x:Option aK):Option bu:=match x with
 |some (.iter s pos)=>bif Ik pos s.length then iA (j0 h b (.iter s (pos+(qj s pos).2))) (.aJ [.bool H9,.int .i64 pos,.int .i32 (qj s pos).1])else val h (.aJ [.bool H3])|_=>Hc
theorem jmf {b pos s}(hp:pos<s.length):vi h b (Ha (.iter s pos))=iA (j0 h b (.iter s (pos+(qj s pos).2))) (.aJ [.bool H9,.int .i64 pos,.int .i32 (qj s pos).1]):=by
 simp only[vi,vg,hp,decide_true,cond_true]
theorem jhh {b pos s}(hp:¬pos<s.length):vi h b (Ha (.iter s pos))=Ha ⟨.aJ [.bool H3],H3,Hc,h⟩:=by
 simp only[vi,vg,hp,decide_false,cond_false,val]
def VB (h0:Nat)(al:ak Nat)(h:qf)(x:Option AVal):Option bu:=match x with
 |some (.ptr b 0)=>cm (zf h0 al b) (vi h b h[b]?)|_=>Hc
@[go_sem] theorem j7w {b}:VB h0 al h (Ha (.ptr b 0))=cm (zf h0 al b) (vi h b h[b]?):=rfl
@[go_sem] theorem zkz {x}:qe p xc h0 al e h (.fE x)=VB h0 al h (qh e x):=by
 simp only[qe,qn,VB]
 cases qh e x with
 |none=>rfl
 |some v=>cases v with
  |ptr b o=>
   cases o with
   |succ o=>rfl
   |zero=>
    simp only[cm,zm,vi,iA]
    cases zf h0 al b with
    |false=>rfl
    |true=>
     simp only[cond_true]
     cases h[b]? with
     |none=>rfl
     |some x=>cases x with
      |iter s pos=>
       simp only[]
       cases Ik pos s.length with
       |false=>rfl|true=>simp only[cond_true];cases j0 h b (.iter s (pos+(qj s pos).2))<;>rfl
      |_=>rfl
  |_=>rfl
theorem Ok {s i c}(hc:s[i]?=Ha c)(hl:c.toNat<128):qj s i=(c.toNat,1):=by
 have hg:(ByteArray.get! ⟨⟨s⟩⟩ (i+0))=c:=by
  obtain⟨Y,I⟩:=E6.1 hc;simp[ByteArray.get!,Y,I]
 simp only[qj,Utf8.decode,hg,hl,if_true]
theorem VC {s i c}(hc:s[i]?=Ha c)(hl:¬c.toNat<128):128<=(qj s i).1:=by
 have hg:(ByteArray.get! ⟨⟨s⟩⟩ (i+0))=c:=by
  obtain⟨Y,I⟩:=E6.1 hc;simp[ByteArray.get!,Y,I]
 simp only[qj,Utf8.decode,hg,hl,if_false,Utf8.runeError];split
 .split<;>simp<;>omega
 .split
  .split
   .next hh=>simp only[Ix,decide_eq_true_eq]at hh;simp only;omega
   .decide
  .split
   .split
    .next hh=>simp only[Ix,decide_eq_true_eq]at hh;simp only;omega
    .decide
   .decide
def wN (h:qf)(zero:AVal)(r:Option (Option (Nat×AVal))):Option bu:=match r with
 |some (Ha (_,v))=>val h v|some Hc=>val h zero|none=>Hc
@[go_sem] theorem j81 {z v i}:wN h z (Ha (Ha (i,v)))=Ha ⟨v,H3,Hc,h⟩:=rfl
@[go_sem] theorem j7j {z}:wN h z (Ha Hc)=Ha ⟨z,H3,Hc,h⟩:=rfl
def Ol (h:qf)(kd:Kd)(z kv:AVal)(x:Option aK):Option bu:=match x with
 |some (.map es)=>wN h z (za kd kv es 0)|_=>Hc
@[go_sem] theorem zam {kd z kv es}:Ol h kd z kv (Ha (.map es))=wN h z (za kd kv es 0):=rfl
def VD (h0:Nat)(al:ak Nat)(h:qf)(kd:Kd)(z:AVal)(m k:Option AVal):Option bu:=match m,k with
 |some (.map b),Ha kv=>cm (zf h0 al b) (Ol h kd z kv h[b]?)|some .b8,Ha _=>val h z|_,_=>Hc
@[go_sem] theorem j4i {kd z kv b}:VD h0 al h kd z (Ha (.map b)) (Ha kv)=cm (zf h0 al b) (Ol h kd z kv h[b]?):=rfl
@[go_sem] theorem zjv {kd z m k}:qe p xc h0 al e h (.lookup kd z H3 m k)=VD h0 al h kd z (qh e m) (qh e k):=by
 simp only[qe,yt,VD]
 cases qh e m with
 |none=>cases qh e k<;>rfl
 |some v=>cases qh e k with
  |none=>cases v<;>rfl
  |some kv=>cases v with
   |map b=>
    simp only[cm,zm,Ol,wN]
    cases zf h0 al b with
    |false=>rfl
    |true=>
     simp only[cond_true]
     cases h[b]? with
     |none=>rfl
     |some x=>cases x with
      |map es=>
       simp only[]
       cases za kd kv es 0 with
       |none=>rfl|some r=>cases r<;>rfl
      |_=>rfl
   |_=>rfl
def F2 (h:qf)(b:Nat)(es:List (AVal×AVal))(kv v:AVal)(r:Option (Option (Nat×AVal))):Option bu:=match r with
 |some (Ha (i,_))=>iA (j0 h b (.map (sk es i v))) .undef|some Hc=>cm (H4 es.length 1073741824) (iA (j0 h b (.map (es++[(kv,v)]))) .undef)|none=>Hc
@[go_sem] theorem zbr {b es kv v}:F2 h b es kv v (Ha Hc)=cm (H4 es.length 1073741824) (iA (j0 h b (.map (es++[(kv,v)]))) .undef):=rfl
def Om (h:qf)(b:Nat)(kd:Kd)(kv v:AVal)(x:Option aK):Option bu:=match x with
 |some (.map es)=>F2 h b es kv v (za kd kv es 0)|_=>Hc
@[go_sem] theorem zhb {b kd kv v es}:Om h b kd kv v (Ha (.map es))=F2 h b es kv v (za kd kv es 0):=rfl
def VE (h0:Nat)(al:ak Nat)(h:qf)(kd:Kd)(m k x:Option AVal):Option bu:=match m,k,x with
 |some (.map b),Ha kv,Ha v=>cm (zf h0 al b) (Om h b kd kv v h[b]?)|_,_,_=>Hc
@[go_sem] theorem zjz {b kd kv v}:VE h0 al h kd (Ha (.map b)) (Ha kv) (Ha v)=cm (zf h0 al b) (Om h b kd kv v h[b]?):=rfl
@[go_sem] theorem j3o {kd m k x}:qe p xc h0 al e h (.mapUpdate kd m k x)=VE h0 al h kd (qh e m) (qh e k) (qh e x):=by
 simp only[qe,qn,VE]
 cases qh e m with
 |none=>cases qh e k<;>cases qh e x<;>rfl
 |some v=>cases qh e k with
  |none=>cases v<;>cases qh e x<;>rfl
  |some kv=>cases qh e x with
   |none=>cases v<;>rfl
   |some xv=>cases v with
    |map b=>
     simp only[cm,zm,Om,F2,iA]
     cases zf h0 al b with
     |false=>rfl
     |true=>
      simp only[cond_true]
      cases h[b]? with
      |none=>rfl
      |some x=>cases x with
       |map es=>
        simp only[]
        cases za kd kv es 0 with
        |none=>rfl
        |some r=>cases r with
         |none=>
          simp only[]
          cases H4 es.length 1073741824 with
          |false=>rfl|true=>simp only[cond_true];cases j0 h b (.map (es++[(kv,xv)]))<;>rfl
         |some r=>simp only[];cases j0 h b (.map (sk es r.1 xv))<;>rfl
       |_=>rfl
    |_=>rfl
def Oo (agg:Bool)(len sz:Nat)(h:qf)(x i:Option AVal):Option bu:=match x,i with
  |some (.ptr b o),Ha j=>(match idx len j with
   |some j=>val h (.ptr b (o+j*sz))
   |none=>Hc)
  |some (.aq (.agg cs)),Ha j=>(match idx len j with
   |some j=>(match part agg cs (j*sz) sz with
    |some v=>bif Bool.xor agg v.isAgg then Hc else val h (.aq v)
    |none=>Hc)
   |none=>Hc)
  |_,_=>Hc
@[go_sem] theorem j6y {agg len sz x i}:qe p xc h0 al e h (.ey agg len sz x i)=Oo agg len sz h (qh e x) (qh e i):=rfl
end
section
variable {p:j8}{xc:XC}{h0:Nat}{al:ak Nat}{e:Env}{h:qf}{α:Type}
@[go_sem] theorem jxo {n s v xs}:zn n (.vec s v xs)=H9:=rfl
@[go_sem] theorem vj {n b v k}:below n (.ay b v k)=decide (b<n):=by
 simp only[below]
 cases hb:Ik b n with
 |true=>simp[Ib.mp hb]
 |false=>
  have:¬b<n:=fun h=>by rw[Ib.mpr h]at hb;cases hb
  simp[this]
def zk (f:α->AVal)(l:List α):List AVal:=(l.map f).flatMap AVal.flat
theorem Bw {f:α->AVal}{x l}:zk f (x::l)=(f x).flat++zk f l:=rfl
theorem q6q {f:α->AVal}{l m}:zk f (l++m)=zk f l++zk f m:=by simp[zk]
theorem Oq {f:α->AVal}{sz}(hf:∀x,(f x).flat.length=sz)(l:List α):(zk f l).length=l.length*sz:=by
 induction l with
 |nil=>simp[zk]|cons x l ih=>rw[Bw,List.length_append,hf,ih,Iy,Iw];omega
theorem qyv {f:α->AVal}{sz}(hf:∀x,(f x).flat.length=sz):∀ {l:List α} {i:Nat},(zk f l).drop (i*sz)=zk f (l.drop i)
 | [],i=>by simp[zk]
 |x::l,0=>by simp
 |x::l,i+1=>by
  rw[Bw,List.drop_succ_cons,<-qyv hf,show(i+1)*sz=(f x).flat.length+i*sz by rw[hf,Iw];omega,Ic];simp
theorem jl5 {f:α->AVal}{sz i l x}(hf:∀x,(f x).flat.length=sz)(M:l[i]?=Ha x):(zk f l).drop (i*sz)=(f x).flat++zk f (l.drop (i+1)):=by
 rw[qyv hf];have bg:=(E6.1 M).1;rw[H8 bg,Bw,(E6.1 M).2]
theorem F3 {f:α->AVal}{sz i o n l x}(hf:∀x,(f x).flat.length=sz)(M:l[i]?=Ha x)(ho:o+n<=sz):((zk f l).drop (i*sz+o)).take n=((f x).flat.drop o).take n/\i*sz+o+n<=(zk f l).length:=by
 have bg:=(E6.1 M).1;refine⟨?_,?_⟩
 .rw[<-List.drop_drop,jl5 hf M,Ic,Ij];have Y:(f x).flat.length=sz:=hf x
  have I:n-((f x).flat.drop o).length=0:=by rw[List.length_drop];omega
  rw[I,I3,I1]
 .rw[Oq hf];have:(i+1)*sz<=l.length*sz:=Nat.mul_le_mul_right _ bg;rw[Iw]at this;omega
theorem q4k {f:α->AVal}{sz i o l x y us}(hf:∀x,(f x).flat.length=sz)(M:l[i]?=Ha x)(ho:o+us.length<=sz)(hy:(f y).flat=(f x).flat.take o++us++(f x).flat.drop (o+us.length)):
  (zk f l).take (i*sz+o)++us++(zk f l).drop (i*sz+o+us.length)=zk f (l.set i y):=by
 have bg:=(E6.1 M).1
 have Bx:l=l.take i++x::l.drop (i+1):=by
  conv=>lhs;rw[<-List.take_append_drop i l,H8 bg,(E6.1 M).2]
 have bK:l.set i y=l.take i++y::l.drop (i+1):=by rw[H2,if_pos bg]
 have hl:(zk f (l.take i)).length=i*sz:=by rw[Oq hf,List.length_take,Nat.min_eq_left (by omega)]
 have Y:(f x).flat.length=sz:=hf x;rw[bK]
 conv=>lhs;rw[Bx]
 simp only[q6q,Bw];rw[hy,Ij,Ic,hl];have e1:(zk f (l.take i)).take (i*sz+o)=zk f (l.take i):=Il (by omega);have e2:(zk f (l.take i)).drop (i*sz+o+us.length)=[]:=List.drop_eq_nil_of_le (by omega);rw[e1,e2,List.nil_append,show i*sz+o-i*sz=o by omega,show i*sz+o+us.length-i*sz=o+us.length by omega,Ij,Ic]
 have e3:o-(f x).flat.length=0:=by omega
 have e4:o+us.length-(f x).flat.length=0:=by omega
 rw[e3,e4,I3,I5,I1];simp[List.append_assoc]
def bQ (f:α->AVal)(l:List α):List (AVal×Bool):=cellsOf (zk f l)
theorem yb {vs}:(cellsOf vs).map (·.1)=vs:=by
 induction vs with
 |nil=>rfl|cons v vs ih=>simp only[cellsOf,List.map_cons]at ih ⊢;rw[ih]
theorem wO {f:α->AVal}{sz i o n l x}(hf:∀x,(f x).flat.length=sz)(M:l[i]?=Ha x)(ho:o+n<=sz):zt (bQ f l) (i*sz+o) n=Ha (((f x).flat.drop o).take n):=by
 obtain⟨Y,I⟩:=F3 hf M ho;unfold zt
 have:(bQ f l).length=(zk f l).length:=by simp[bQ,cellsOf]
 rw[this,Hb I];simp only[cond_true,Ha.injEq];rw[<-Y];simp only[bQ,Io,Ip,yb]
theorem nC {f:α->AVal}{sz i o l x y us}(hf:∀x,(f x).flat.length=sz)(M:l[i]?=Ha x)(ho:o+us.length<=sz)(G:us.all qk=H9)(hy:(f y).flat=(f x).flat.take o++us++(f x).flat.drop (o+us.length)):
  jw (bQ f l) (i*sz+o) us=Ha (bQ f (l.set i y)):=by
 obtain⟨_,I⟩:=F3 hf M ho;unfold jw
 have:(bQ f l).length=(zk f l).length:=by simp[bQ,cellsOf]
 rw[this,Hb I,G];simp only[Ig,cond_true,Ha.injEq];rw[show bQ f (l.set i y)=cellsOf (zk f (l.set i y))from rfl,<-q4k hf M ho hy];simp[bQ,cellsOf,I2,Io,Ip]
theorem jba {f:α->AVal}{sz i o l x y u}(hf:∀x,(f x).flat.length=sz)(M:l[i]?=Ha x)(ho:o<sz)(hy:(f y).flat=(f x).flat.set o u):(bQ f l).set (i*sz+o) (u,H3)=bQ f (l.set i y):=by
 have hl:(f x).flat.length=sz:=hf x;have I:=(F3 (n:=1) (o:=o) hf M (by omega)).2;have:=q4k (us:=[u]) (y:=y) (o:=o) hf M (by simp;omega) (by rw[hy,H2,if_pos (show o<(f x).flat.length by omega)];simp);rw[show bQ f (l.set i y)=cellsOf (zk f (l.set i y))from rfl,<-this];simp only[bQ,cellsOf,Iy,List.length_nil];rw[H2,if_pos (by simp;omega)];simp[I2,Io,Ip]
theorem j5d {f:α->AVal}{sz i o n b v:Nat}{l:List α}{x:α}(hf:∀x,(f x).flat.length=sz)(hb:h[b]?=Ha (.vec sz v (l.map f)))(oX:sj h0 al b=H9)(M:l[i]?=Ha x)(ho:o+n<=sz):
  gT h0 al H9 n h (Ha (.dT b v (i*sz+o)))=Ha ⟨.agg (((f x).flat.drop o).take n),H3,Hc,h⟩:=by
 obtain⟨Y,I⟩:=F3 hf M ho;have hg:zm h b=Ha (.vec sz v (l.map f)):=hb
 show(bif sj h0 al b then(match zm h b with
   |some (.vec _ dJ xs)=>bif Ia v dJ&&H4 (i*sz+o+n) (xs.flatMap AVal.flat).length then(bif H9 then val h (.agg (((xs.flatMap AVal.flat).drop (i*sz+o)).take n))else(match((xs.flatMap AVal.flat).drop (i*sz+o)).take n with
     | [v]=>val h v
     |_=>Hc))else Hc
   |_=>Hc)else Hc)=_
 rw[oX,hg];simp only[cond_true,If,Iq];have h3:H4 (i*sz+o+n) ((l.map f).flatMap AVal.flat).length=H9:=Hb I;rw[h3];simp only[cond_true,val];have h4:(((l.map f).flatMap AVal.flat).drop (i*sz+o)).take n=((f x).flat.drop o).take n:=Y;rw[h4]
theorem jhs {f:α->AVal}{sz i b v:Nat}{l:List α}{x:α}(hf:∀x,(f x).flat.length=sz)(hb:h[b]?=Ha (.vec sz v (l.map f)))(oX:sj h0 al b=H9)(M:l[i]?=Ha x):
  gT h0 al H9 sz h (Ha (.dT b v (i*sz)))=Ha ⟨.agg (f x).flat,H3,Hc,h⟩:=by
 have:=j5d (al:=al) (h0:=h0) (o:=0) (n:=sz) hf hb oX M (by omega);rw[Nat.add_zero,I5,Il (by rw[hf];exact Nat.le_refl _)]at this;exact this
theorem jyz {f:α->AVal}{sz i o b v:Nat}{l:List α}{x:α}{u}(hf:∀x,(f x).flat.length=sz)(hb:h[b]?=Ha (.vec sz v (l.map f)))(oX:sj h0 al b=H9)(M:l[i]?=Ha x)(hu:(f x).flat[o]?=Ha u):
  gT h0 al H3 1 h (Ha (.dT b v (i*sz+o)))=Ha ⟨u,H3,Hc,h⟩:=by
 have bg:=(E6.1 hu).1;rw[hf]at bg;obtain⟨Y,I⟩:=F3 (n:=1) hf M (by omega:o+1<=sz);have hg:zm h b=Ha (.vec sz v (l.map f)):=hb
 show(bif sj h0 al b then(match zm h b with
   |some (.vec _ dJ xs)=>bif Ia v dJ&&H4 (i*sz+o+1) (xs.flatMap AVal.flat).length then(bif H3 then val h (.agg (((xs.flatMap AVal.flat).drop (i*sz+o)).take 1))else(match((xs.flatMap AVal.flat).drop (i*sz+o)).take 1 with
     | [v]=>val h v
     |_=>Hc))else Hc
   |_=>Hc)else Hc)=_
 rw[oX,hg];simp only[cond_true,If,Iq];have h3:H4 (i*sz+o+1) ((l.map f).flatMap AVal.flat).length=H9:=Hb I
 have h4:(((l.map f).flatMap AVal.flat).drop (i*sz+o)).take 1=[u]:=by
  show((zk f l).drop (i*sz+o)).take 1=[u];have Tz:=(E6.1 hu).1;rw[Y,H8 Tz,(E6.1 hu).2];rfl
 rw[h3,h4];rfl
def pT (h0:Nat)(r sz bytes:Nat)(h:qf)(x y:Option AVal):Option bu:=match x,y with
 |some (.list H9 _ []),Ha vy=>(match yg sz vy with
   |some ys=>
    bif H4 ys.length 1073741824&&H4 bytes 4096&&Ik 0 sz&&!ys.isEmpty&&qo 0 ys&&Ik r 1000 then
     (match aO h0 h r (.vec sz 0 ys)with
      |some h'=>val h' (.ay (h0+r) 0 ys.length)
      |none=>Hc)else Hc
   |none=>Hc)
 |some (.ay b bN len),Ha vy=>(match zm h b with
  |some (.vec df dJ xs)=>(match yg sz vy with
   |some ys=>
    bif Ia bN dJ&&Ia sz df&&H4 len xs.length&&H4 (len+ys.length) 1073741824&&H4 bytes 4096&&Ik 0 sz&&qo 0 ys&&Ik r 1000 then
     (match j0 h b (.vec sz (bN+1) (xs.take len++ys))with
      |some h'=>val h' (.ay b (bN+1) (len+ys.length))
      |none=>Hc)else Hc
   |none=>Hc)
  |_=>Hc)
 |_,_=>Hc
@[go_sem] theorem zll {r sz bytes x y}:qe p xc h0 al e h (.gI r sz bytes x y)=pT h0 r sz bytes h (qh e x) (qh e y):=rfl
theorem q7h {r sz z bytes ys b h'}(hl:ys.length<=1073741824)(hb:bytes<=4096)(hz:0<sz)(bG:ys≠[])(hp:qo 0 ys=H9)(Q:r<1000)(hn:aO h0 h r (.vec sz 0 ys)=Ha h'):pT h0 r sz bytes h (Ha (.list H9 z [])) (Ha (.list b sz ys))=Ha ⟨.ay (h0+r) 0 ys.length,H3,Hc,h'⟩:=by
 have h5:ys.isEmpty=H3:=by cases ys<;>simp at bG ⊢
 simp only[pT,yg,If,I6,cond_true,Hb hl,Hb hb,Ib.mpr hz,h5,hp,Ib.mpr Q,Bool.not_false,Ig,hn];rfl
theorem jjr {r sz bytes b v len xs ys c}(gR:h[b]?=Ha (.vec sz v xs))(hlen:len<=xs.length)(hl:len+ys.length<=1073741824)(hb:bytes<=4096)(hz:0<sz)(hp:qo 0 ys=H9)(Q:r<1000):
  pT h0 r sz bytes h (Ha (.ay b v len)) (Ha (.list c sz ys))=Ha ⟨.ay b (v+1) (len+ys.length),H3,Hc,h.set b (.vec sz (v+1) (xs.take len++ys))⟩:=by
 have hg:zm h b=Ha (.vec sz v xs):=gR;have bg:=(E6.1 gR).1;simp only[pT,hg,yg,If,I6,cond_true,Hb hlen,Hb hl,Hb hb,Ib.mpr hz,hp,Ib.mpr Q,Ig,j0,Ib.mpr bg];rfl
theorem jih {sz b v len i k}(hi:i<len):mr sz h (Ha (.ay b v len)) (Ha (.int k (i:Int)))=Ha ⟨.dT b v (i*sz),H3,Hc,h⟩:=by
 have:idx len (.int k (i:Int))=Ha i:=by rw[vd];exact N6 hi
 simp only[mr,this];rfl
@[go_sem] theorem zko {n}:qe p xc h0 al e h (.gH n)=Ha ⟨.cW n,H9,Hc,h⟩:=rfl
def Ot (n:Nat)(h:qf)(x:Option (AVal×Bool))(y:Option AVal):Option bu:=match x,y with
 |some (.cW m,H9),Ha v=>cm (Ia m n&&Ia v.flat.length n&&v.flat.all qk) (Ha ⟨.aq v,H3,Hc,h⟩)|_,_=>Hc
theorem q6x {n m v}:Ot n h (Ha (.cW m,H9)) (Ha v)=cm (Ia m n&&Ia v.flat.length n&&v.flat.all qk) (Ha ⟨.aq v,H3,Hc,h⟩):=rfl
@[go_sem] theorem zah {n v}(hv:(Ia v.flat.length n&&v.flat.all qk)=H9):Ot n h (Ha (.cW n,H9)) (Ha v)=Ha ⟨.aq v,H3,Hc,h⟩:=by
 rw[q6x,If,Iq,hv];rfl
@[go_sem] theorem zjt {n s x}:qe p xc h0 al e h (.dm n s x)=Ot n h (jn s e) (qh e x):=by
 simp only[qe,ql,Ot];split
 .rename_i m v Y I;rw[Y,I];simp only[cm];cases (Ia m n&&Ia v.flat.length n&&v.flat.all qk)<;>rfl
 .rename_i sX;split
  .rename_i m v Y I;exact absurd I (sX m v Y)
  .rfl
end
end Go.Abs
