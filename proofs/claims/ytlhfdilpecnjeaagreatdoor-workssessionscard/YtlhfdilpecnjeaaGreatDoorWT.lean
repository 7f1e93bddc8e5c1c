/- Decimal numbers. -/
import Derived.Test.YtlhfdilpecnjeaaGreatDoorLA
import Derived.Test.YtlhfdilpecnjeaaGreatDoorWS
set_option linter.all false
set_option maxRecDepth 100000
noncomputable section
open List renaming length_append->En,length_singleton->Ga,length_cons->Gd,take_append_drop->Hc,length_pos_iff->Hq,all_eq_true->H2
open Option renaming some->Gb,none->Ha
open UInt8 renaming ofNat->Hb,toNat_inj->If
namespace Go.Z
open Go Go.Abs
def kU:Int->aj->Option Int
 |n,[]=>Gb n
 |n,c::t=>if 48<=c.toNat/\c.toNat<=57 then kU (10*n+((c.toNat:Int)-48)) t else Ha
theorem q4l:∀ (n:Int) (b:aj) (c:UInt8),kU n (b++[c])=match kU n b with
  |some m=>if 48<=c.toNat/\c.toNat<=57 then Gb (10*m+((c.toNat:Int)-48))else Ha
  |none=>Ha
 |n,[],c=>rfl
 |n,x::t,c=>by
  rw[List.cons_append,kU,kU];split
  .exact q4l _ t c
  .rfl
theorem qzu:∀ {b:aj} {n v:Int} {k:Nat},0<=n->n<10^k->kU n b=Gb v->0<=v/\v<10^(k+b.length)
 | [],n,v,k,h0,Y,h=>by cases h;exact⟨h0,by simpa using Y⟩
 |c::t,n,v,k,h0,Y,h=>by
  rw[kU]at h;split at h
  .rename_i hc;have:=qzu (k:=k+1) (by omega) (by rw[Int.pow_succ];omega) h;rw[Gd,show k+(t.length+1)=k+1+t.length by omega];exact this
  .cases h
def iI (b:aj):Option Int:=if b=[]\/9<b.length\/(1<b.length/\b.head?=Gb 48)then Ha else kU 0 b
theorem jfr {b:aj}{v:Int}(h:iI b=Gb v):0<=v/\v<1000000000:=by
 unfold iI at h;split at h
 .cases h
 .rename_i hc;have Y:¬9<b.length:=fun e=>hc (.inr (.inl e));have:=qzu (k:=0) (by omega) (by omega) h;refine⟨this.1,Int.lt_of_lt_of_le this.2 ?_⟩;rw[Nat.zero_add,show(1000000000:Int)=((10^9:Nat):Int) by decide,show((10:Int)^b.length)=((10^b.length:Nat):Int) by simp];exact Int.ofNat_le.2 (Nat.pow_le_pow_right (by omega) (by omega))
theorem zy {x:Int}(Y:-9223372036854775808<=x)(I:x<=9223372036854775807):qd .i64 x=x:=OS Y I
theorem jwm {x:Int}(Y:0<=x)(I:x<=255):qd .u8 x=x:=by
 rw[wW];simp only[IntKind.wrap,IntKind.signed,IntKind.bits];simp;omega
theorem Z3 {x:Int}(Y:0<=x)(I:x<=2000000):qd .i32 x=x:=by
 rw[wW];simp only[IntKind.wrap,IntKind.signed,IntKind.bits];simp;omega
theorem jce {i:Nat}(h:i<=9):(10:Int)^i<=1000000000:=by
 rw[show(1000000000:Int)=((10^9:Nat):Int) by decide,show((10:Int)^i)=((10^i:Nat):Int) by simp];exact Int.ofNat_le.2 (Nat.pow_le_pow_right (by omega) (by omega))
theorem q99 {s:aj}(h:0<s.length):s.head?=Gb s[0]:=by
 cases s with
 |nil=>simp at h|cons a t=>rfl
theorem Hm {u:Nat}(h:u<10):Lib.decDigits u=[Hb (48+u)]:=by rw[Lib.decDigits,dif_pos h]
theorem q5c {x:Int}(h0:0<=x)(Y:x<128):(Utf8.encode x).data.toList=[Hb x.toNat]:=by
 have hv:Utf8.valid x=true:=by simp[Utf8.valid];omega
 have hc:x.toNat<128:=by omega
 simp only[Utf8.encode,hv,if_true,hc]
theorem QH {u:Nat}(h:¬u<10):Lib.decDigits u=Lib.decDigits (u / 10)++[Hb (48+u % 10)]:=by rw[Lib.decDigits,dif_neg h]
theorem Hn:∀ (k u:Nat),u<10^(k+1)->(Lib.decDigits u).length<=k+1
 |0,u,h=>by rw[Hm (by simpa using h)];simp
 |k+1,u,h=>by
  by_cases hu:u<10
  .rw[Hm hu];simp
  .have:=Hn k (u / 10) (by rw[Nat.pow_succ]at h;omega);rw[QH hu,En,Ga];omega
theorem qxb {d:Nat}(h:d<10):(Hb (48+d)).toNat=48+d:=by
 rw[UInt8.toNat_ofNat'];omega
theorem q97:∀ (n:Nat) (b:aj) (v:Int),b.length<=n->b≠[]->(b.length=1\/b.head?≠Gb 48)->kU 0 b=Gb v->0<=v/\Lib.decDigits v.toNat=b
 |0,b,v,hn,hb,_,_=>absurd (List.length_eq_zero_iff.1 (by omega)) hb
 |n+1,b,v,hn,hb,hh,hd=>by
  obtain⟨t,c,rfl⟩:∃t c,b=t++[c]:=⟨b.dropLast,b.getLast hb,(List.dropLast_concat_getLast hb).symm⟩;rw[q4l]at hd;by_cases ht:t=[]
  .subst ht;simp only[kU]at hd;split at hd
   .rename_i hc;cases hd;refine⟨by omega,?_⟩;rw[Hm (by omega)];simp only[List.nil_append,List.cons.injEq,and_true];apply If.1;rw[qxb (by omega)];omega
   .cases hd
  .cases hm:kU 0 t with
   |none=>rw[hm]at hd;cases hd
   |some m=>
    rw[hm]at hd;dsimp only at hd;split at hd
    .rename_i hc;cases hd;have aW:0<t.length:=Hq.2 ht
     have F3:t.head?≠Gb 48:=by
      rcases hh with hh|hh
      .simp only[En,Ga]at hh;omega
      .cases t with
       |nil=>exact absurd rfl ht|cons x t=>exact hh
     have ih:=q97 n t m (by simp only[En,Ga]at hn;omega) ht (.inr F3) hm
     have hm0:m≠0:=by
      rintro rfl;have I:=ih.2;rw[show(0:Int).toNat=0 from rfl,Hm (by omega)]at I;exact F3 (by rw[<-I];rfl)
     refine⟨by omega,?_⟩;rw[QH (by omega)]
     have e1:(10*m+((c.toNat:Int)-48)).toNat / 10=m.toNat:=by omega
     have e2:(10*m+((c.toNat:Int)-48)).toNat % 10=c.toNat-48:=by omega
     rw[e1,e2,ih.2]
     congr 2
     apply If.1;rw[qxb (by omega)];omega
    .cases hd
theorem q76 {b:aj}{v:Int}(h:iI b=Gb v):0<=v/\Lib.decDigits v.toNat=b:=by
 unfold iI at h;split at h
 .cases h
 .rename_i hc;have Y:b≠[]:=fun e=>hc (.inl e)
  have I:b.length=1\/b.head?≠Gb 48:=by
   by_cases e:b.length=1
   .exact .inl e
   .refine .inr fun e2=>hc (.inr (.inr ⟨?_,e2⟩));have:=Hq.2 Y;omega
  exact q97 b.length b v (Nat.le_refl _) Y I h
end Go.Z
namespace Go.Z
open Go Go.Abs Go.W
def sG (x:Int)(c:UInt8):Int:=(313*x+(c.toNat:Int)) % 9999889
def fZ (s:aj):Int:=s.foldl sG 1
theorem Z5:∀ (s:aj) (x:Int),0<=x->x<9999889->0<=s.foldl sG x/\s.foldl sG x<9999889
 | [],x,h0,Y=>⟨h0,Y⟩|c::s,x,h0,Y=>Z5 s (sG x c) (by unfold sG;omega) (by unfold sG;omega)
theorem CV (s:aj):0<=fZ s/\fZ s<9999889:=Z5 s 1 (by omega) (by omega)
def rE (n:Int):aj:=List.replicate (7-(Lib.decDigits n.toNat).length) 48++Lib.decDigits n.toNat
theorem qs2 {n:Int}(h0:0<=n)(Y:n<10000000):(rE n).length=7:=by
 have:=Hn 6 n.toNat (by omega);unfold rE;rw[En,List.length_replicate];omega
def iJ (c:UInt8):Bool:=decide (48<=c.toNat)&&decide (c.toNat<=57)
theorem Lr {v:Int}(h:0<=v):Lib.itoa v=Lib.decDigits v.toNat:=by
 unfold Lib.itoa;rw[if_neg (by omega)]
def kA:List aj->ak Int
 | []=>Gb []
 |w::ws=>match iI w with
  |none=>Ha
  |some v=>match kA ws with
   |none=>Ha|some l=>Gb (v::l)
theorem qyx:∀ {ws:List aj} {vs:List Int},kA ws=Gb vs->vs.map Lib.itoa=ws/\∀v∈vs,0<=v/\v<1000000000
 | [],vs,h=>by cases h;exact⟨rfl,by simp⟩
 |w::ws,vs,h=>by
  rw[kA]at h
  cases hw:iI w with
  |none=>rw[hw]at h;cases h
  |some v=>
   rw[hw]at h;dsimp only at h
   cases Q:kA ws with
   |none=>rw[Q]at h;cases h
   |some l=>
    rw[Q]at h;cases h;have Y:=q76 hw;have I:=qyx Q;have h3:=jfr hw;refine⟨by rw[List.map_cons,Lr Y.1,Y.2,I.1],fun x M=>?_⟩;rcases List.mem_cons.1 M with rfl|M
    .exact h3
    .exact I.2 x M
theorem jjg:∀ x∈cC,x.1≠[]/\(x.1.all fun c=>decide (97<=c.toNat))=true:=by decide
theorem qru {k:aj}{f}(h:z7 k=Gb f):(k,f)∈cC:=by
 unfold z7 at h;obtain⟨x,Y,rfl⟩:=Option.map_eq_some_iff.1 h;have I:=List.find?_some Y
 have I:x.1=k:=by simpa using I
 have h3:=List.mem_of_find?_eq_some Y;subst I;exact h3
theorem Rk {e:cQ}(h:jj e=0):1<=e.number/\e.number<=1000/\(∃f,z7 e.kind=Gb f/\e.names.length=f.1/\e.values.length=f.2)/\(∀s∈e.names,Go.W.cu s=true)/\(∀v∈e.values,0<=v/\v<=999999999)/\e.text=[]:=by
 unfold jj at h;split at h
 .cases h
 rename_i hn;split at h
 .cases h
 rename_i f hf;split at h
 .cases h
 rename_i hl;split at h
 .cases h
 rename_i G;split at h
 .cases h
 rename_i hv;split at h
 .cases h
 rename_i ht
 have G:(e.names.all Go.W.cu)=true:=by simpa using G
 have hv:(e.values.all fun n=>decide (0<=n)&&decide (n<=999999999))=true:=by simpa using hv
 refine⟨by omega,by omega,⟨f,hf,by omega,by omega⟩,fun s fK=>H2.1 G s fK,fun v xh=>?_,Classical.not_not.1 ht⟩;have:=H2.1 hv v xh;simpa using this
def q77 (e:cQ):List aj:=e.kind::(e.names++e.values.map Lib.itoa)
def jA (e:cQ):aj:=Lib.join (Lib.itoa e.number::q77 e) [32]
def jZ (e:cQ):aj:=jA e++35::rE (fZ (jA e))
def nF (l:List aj)(n:Int):Option cQ:=match l with
 | []=>Ha
 |k::r=>match z7 k with
  |none=>Ha
  |some f=>if r.length=f.1+f.2/\[] ∉ r then(match kA (r.drop f.1)with
   |none=>Ha
   |some vs=>Gb ⟨n,k,r.take f.1,vs,[]⟩)else Ha
theorem QL {l:List aj}{n:Int}{e:cQ}(h:nF l n=Gb e):e.number=n/\q77 e=l/\e.text=[]/\(∃f,z7 e.kind=Gb f/\e.names.length=f.1/\e.values.length=f.2)/\∀v∈e.values,0<=v/\v<1000000000:=by
 unfold nF at h;split at h
 .cases h
 rename_i k r;split at h
 .cases h
 rename_i f hf;split at h
 .rename_i hl;split at h
  .cases h
  rename_i vs hv;cases h;have:=qyx hv;refine⟨rfl,?_,rfl,⟨f,hf,?_,?_⟩,this.2⟩
  .show k::(r.take f.1++vs.map Lib.itoa)=k::r;rw[this.1,Hc]
  .show(r.take f.1).length=_;rw[List.length_take];omega
  .show vs.length=_;have I:=congrArg List.length this.1;rw[List.length_map,List.length_drop]at I;omega
 .cases h
def uh (s:aj):Option cQ:=match ej 32 s with
 | []=>Ha
 |w::r=>match iI w with
  |none=>Ha
  |some n=>match nF r n with
   |none=>Ha
   |some e=>if jj e=0 then Gb e else Ha
theorem jev {s:aj}{e:cQ}(h:uh s=Gb e):jA e=s/\jj e=0:=by
 unfold uh at h;split at h
 .cases h
 rename_i w r G;split at h
 .cases h
 rename_i n hn;split at h
 .cases h
 rename_i e' hw;split at h
 .rename_i hc;cases h;have Y:=QL hw;have I:=q76 hn;refine⟨?_,hc⟩;unfold jA;rw[Y.1,Y.2.1,Lr I.1,I.2,<-G,jpq]
 .cases h
def qC (s:aj)(n:Nat):Except Int cQ:=
 if s.length<8 then .error 26 else
 if s[s.length-8]?≠Gb 35\/(s.drop (s.length-7)).all iJ=false then .error 26 else
 if s.drop (s.length-7)≠rE (fZ (s.take (s.length-8)))then .error 28 else
 match uh (s.take (s.length-8))with
 |none=>.error 26
 |some e=>if e.number≠(n:Int)+1 then .error 11 else .ok e
theorem q3k (e:cQ):(jZ e).length=(jA e).length+8:=by
 have:=CV (jA e);unfold jZ;rw[En,Gd,qs2 this.1 (by omega)]
theorem jkl {s:aj}{n:Nat}{e:cQ}(h:qC s n=.ok e):jZ e=s/\jj e=0/\e.number=(n:Int)+1:=by
 unfold qC at h;split at h
 .cases h
 rename_i hl;split at h
 .cases h
 rename_i G;split at h
 .cases h
 rename_i hc;split at h
 .cases h
 rename_i e' hp;split at h
 .cases h
 rename_i hn;cases h;obtain⟨Y,I⟩:=jev hp;refine⟨?_,I,Classical.not_not.1 hn⟩;have hc:=Classical.not_not.1 hc;have gW:s[s.length-8]?=Gb 35:=Classical.not_not.1 fun e=>G (.inl e);unfold jZ;rw[Y,<-hc]
 have aW:s.length-8<s.length:=by omega
 have hd:s.drop (s.length-8)=35::s.drop (s.length-7):=by
  rw[List.drop_eq_getElem_cons aW,show s.length-8+1=s.length-7 by omega];rw[List.getElem?_eq_getElem aW]at gW;rw[Gb.inj gW]
 rw[<-hd,Hc]
theorem qxr {s:aj}{n:Nat}{k:Int}(h:qC s n=.error k):k≠0:=by
 unfold qC at h
 repeat' split at h
 all_goals first|(cases h;decide)|cases h
def nG:List aj->Nat->List cQ->List cQ×Nat×Int
 | [],a,out=>(out,a,0)| [w],a,out=>(out,a,if w=[]then 0 else 29)
 |w::x::r,a,out=>match qC w out.length with
  | .error k=>(out,a,k)| .ok e=>nG (x::r) (a+w.length+1) (out++[e])
def ui (s:aj):List cQ×Nat×Int:=nG (ej 10 s) 0 []
def gX:List cQ->aj
 | []=>[]|e::l=>jZ e++10::gX l
def L5:Nat->List cQ->Prop
 |_,[]=>True|k,e::l=>jj e=0/\e.number=(k:Int)+1/\L5 (k+1) l
theorem qx2 {w:aj}{t:List aj}{a:Nat}{out:List cQ}(ht:t≠[]):nG (w::t) a out=match qC w out.length with
  | .error k=>(out,a,k)
  | .ok e=>nG t (a+w.length+1) (out++[e]):=by
 cases t with
 |nil=>exact absurd rfl ht|cons x r=>rfl
theorem qys {s:aj}:∀ {a:Nat} {out:List cQ},∃l,(nG (ej 10 s) a out).1=out++l/\L5 out.length l/\(nG (ej 10 s) a out).2.1=a+(gX l).length/\(∃t,s=gX l++t/\((nG (ej 10 s) a out).2.2=0->t=[])):=by
 refine KJ (c:=10) (P:=fun s=>∀ {a:Nat} {out:List cQ},∃l,(nG (ej 10 s) a out).1=out++l/\L5 out.length l/\(nG (ej 10 s) a out).2.1=a+(gX l).length/\(∃t,s=gX l++t/\((nG (ej 10 s) a out).2.2=0->t=[]))) ?_ ?_ s.length s (Nat.le_refl _)
 .intro s G a out;rw[sE G];refine⟨[],by simp[nG],trivial,by simp[nG,gX],s,rfl,?_⟩;intro h;have h:(if s=[]then(0:Int)else 29)=0:=h;split at h
  .assumption
  .cases h
 .intro x b M ih a out;rw[wm M,qx2 (Ag _ _)]
  cases hl:qC x out.length with
  |error k=>exact⟨[],by simp,trivial,by simp[gX],x++10::b,rfl,fun h=>absurd h (qxr hl)⟩
  |ok e=>
   obtain⟨Y,I,h3⟩:=jkl hl;obtain⟨l,k1,k2,k3,t,k4,k5⟩:=ih (a:=a+x.length+1) (out:=out++[e]);rw[En,Ga]at k2;refine⟨e::l,by rw[k1];simp,⟨I,h3,k2⟩,?_,t,?_,k5⟩
   .show(nG (ej 10 b) (a+x.length+1) (out++[e])).2.1=_;rw[k3,gX,En,Gd,Y];omega
   .rw[gX,Y,k4];simp
theorem ja1 (s:aj):L5 0 (ui s).1/\(ui s).2.1=(gX (ui s).1).length/\((ui s).2.2=0->s=gX (ui s).1):=by
 obtain⟨l,Y,I,h3,t,h4,h5⟩:=qys (s:=s) (a:=0) (out:=[]);have qY:(ui s).1=l:=Y;refine⟨by rw[qY];exact I,?_,fun h=>?_⟩
 .rw[qY];have:(ui s).2.1=0+(gX l).length:=h3;omega
 .rw[qY];rw[h5 h]at h4;simpa using h4
end Go.Z
end
