/- Decimal numbers. -/
import Derived.Test.YtimdocpnkimlfaaGreatDoorLA
import Derived.Test.YtimdocpnkimlfaaGreatDoorWS
set_option linter.unusedVariables false
set_option linter.unusedSimpArgs false
set_option maxRecDepth 100000
open List renaming length_append→I,length_singleton→Ea,length_cons→Ec,take_append_drop→E3,length_pos_iff→Ga,cons_append→Gc,all_eq_true→Ha
open Option renaming some→Eb,none→Ek
open UInt8 renaming ofNat→En,toNat_inj→Hb
namespace Go.Z
open Go Go.Abs
def iC:Int→List UInt8→Option Int
 |n,[]=>Eb n
 |n,c::t=>if 48≤c.toNat∧c.toNat≤57 then iC (10*n+((c.toNat:Int)-48)) t else Ek
theorem quj:∀ (n:Int) (b:List UInt8) (c:UInt8),iC n (b++[c])=match iC n b with
  |some m=>if 48≤c.toNat∧c.toNat≤57 then Eb (10*m+((c.toNat:Int)-48))else Ek
  |none=>Ek
 |n,[],c=>rfl
 |n,x::t,c=>by
  rw[Gc,iC,iC]
  split
  ·exact quj _ t c
  ·rfl
theorem qp1:∀ {b:List UInt8} {n v:Int} {k:Nat},0≤n→n<10^k→iC n b=Eb v→0≤v∧v<10^(k+b.length)
 | [],n,v,k,h0,h1,h=>by cases h;exact⟨h0,by simpa using h1⟩
 |c::t,n,v,k,h0,h1,h=>by
  rw[iC]at h
  split at h
  ·rename_i hc
   have:=qp1 (k:=k+1) (by omega) (by rw[Int.pow_succ];omega) h
   rw[Ec,show k+(t.length+1)=k+1+t.length by omega]
   exact this
  ·cases h
def kw (b:List UInt8):Option Int:=if b=[]∨9<b.length∨(1<b.length∧b.head?=Eb 48)then Ek else iC 0 b
theorem q2w {b:List UInt8}{v:Int}(h:kw b=Eb v):0≤v∧v<1000000000:=by
 unfold kw at h
 split at h
 ·cases h
 ·rename_i hc
  have h1:¬9<b.length:=fun e=>hc (.inr (.inl e))
  have:=qp1 (k:=0) (by omega) (by omega) h
  refine⟨this.1,Int.lt_of_lt_of_le this.2 ?_⟩
  rw[Nat.zero_add,show(1000000000:Int)=((10^9:Nat):Int) by decide,show((10:Int)^b.length)=((10^b.length:Nat):Int) by simp]
  exact Int.ofNat_le.2 (Nat.pow_le_pow_right (by omega) (by omega))
theorem jx {x:Int}(h1:-9223372036854775808≤x)(h2:x≤9223372036854775807):qh .i64 x=x:=PK h1 h2
theorem jgm {x:Int}(h1:0≤x)(h2:x≤255):qh .u8 x=x:=by
 rw[rQ]
 simp only[IntKind.wrap,IntKind.signed,IntKind.bits]
 simp
 omega
theorem Ri {x:Int}(h1:0≤x)(h2:x≤2000000):qh .i32 x=x:=by
 rw[rQ]
 simp only[IntKind.wrap,IntKind.signed,IntKind.bits]
 simp
 omega
theorem q0w {i:Nat}(h:i≤9):(10:Int)^i≤1000000000:=by
 rw[show(1000000000:Int)=((10^9:Nat):Int) by decide,show((10:Int)^i)=((10^i:Nat):Int) by simp]
 exact Int.ofNat_le.2 (Nat.pow_le_pow_right (by omega) (by omega))
theorem qx4 {s:List UInt8}(h:0<s.length):s.head?=Eb s[0]:=by
 cases s with
 |nil=>simp at h
 |cons a t=>rfl
theorem Ck {u:Nat}(h:u<10):Lib.decDigits u=[En (48+u)]:=by rw[Lib.decDigits,dif_pos h]
theorem qul {x:Int}(h0:0≤x)(h1:x<128):(Utf8.encode x).data.toList=[En x.toNat]:=by
 have hv:Utf8.valid x=true:=by simp[Utf8.valid];omega
 have hc:x.toNat<128:=by omega
 simp only[Utf8.encode,hv,if_true,hc]
theorem Jj {u:Nat}(h:¬u<10):Lib.decDigits u=Lib.decDigits (u / 10)++[En (48+u % 10)]:=by rw[Lib.decDigits,dif_neg h]
theorem FO:∀ (k u:Nat),u<10^(k+1)→(Lib.decDigits u).length≤k+1
 |0,u,h=>by rw[Ck (by simpa using h)];simp
 |k+1,u,h=>by
  by_cases hu:u<10
  ·rw[Ck hu];simp
  ·have:=FO k (u / 10) (by rw[Nat.pow_succ]at h;omega)
   rw[Jj hu,I,Ea];omega
theorem qos {d:Nat}(h:d<10):(En (48+d)).toNat=48+d:=by
 rw[UInt8.toNat_ofNat'];omega
theorem qzc:∀ (n:Nat) (b:List UInt8) (v:Int),b.length≤n→b≠[]→(b.length=1∨b.head?≠Eb 48)→iC 0 b=Eb v→0≤v∧Lib.decDigits v.toNat=b
 |0,b,v,hn,hb,_,_=>absurd (List.length_eq_zero_iff.1 (by omega)) hb
 |n+1,b,v,hn,hb,hh,hd=>by
  obtain⟨t,c,rfl⟩:∃t c,b=t++[c]:=⟨b.dropLast,b.getLast hb,(List.dropLast_concat_getLast hb).symm⟩
  rw[quj]at hd
  by_cases ht:t=[]
  ·subst ht
   simp only[iC]at hd
   split at hd
   ·rename_i hc
    cases hd
    refine⟨by omega,?_⟩
    rw[Ck (by omega)]
    simp only[List.nil_append,List.cons.injEq,and_true]
    apply Hb.1
    rw[qos (by omega)];omega
   ·cases hd
  ·cases hm:iC 0 t with
   |none=>rw[hm]at hd;cases hd
   |some m=>
    rw[hm]at hd
    dsimp only at hd
    split at hd
    ·rename_i hc
     cases hd
     have aC:0<t.length:=Ga.2 ht
     have HR:t.head?≠Eb 48:=by
      rcases hh with hh|hh
      ·simp only[I,Ea]at hh;omega
      ·cases t with
       |nil=>exact absurd rfl ht
       |cons x t=>exact hh
     have ih:=qzc n t m (by simp only[I,Ea]at hn;omega) ht (.inr HR) hm
     have hm0:m≠0:=by
      rintro rfl
      have h2:=ih.2
      rw[show(0:Int).toNat=0 from rfl,Ck (by omega)]at h2
      exact HR (by rw[←h2];rfl)
     refine⟨by omega,?_⟩
     rw[Jj (by omega)]
     have e1:(10*m+((c.toNat:Int)-48)).toNat / 10=m.toNat:=by omega
     have e2:(10*m+((c.toNat:Int)-48)).toNat % 10=c.toNat-48:=by omega
     rw[e1,e2,ih.2]
     congr 2
     apply Hb.1
     rw[qos (by omega)];omega
    ·cases hd
theorem qzi {b:List UInt8}{v:Int}(h:kw b=Eb v):0≤v∧Lib.decDigits v.toNat=b:=by
 unfold kw at h
 split at h
 ·cases h
 ·rename_i hc
  have h1:b≠[]:=fun e=>hc (.inl e)
  have h2:b.length=1∨b.head?≠Eb 48:=by
   by_cases e:b.length=1
   ·exact .inl e
   ·refine .inr fun e2=>hc (.inr (.inr ⟨?_,e2⟩))
    have:=Ga.2 h1
    omega
  exact qzc b.length b v (Nat.le_refl _) h1 h2 h
end Go.Z
namespace Go.Z
open Go Go.Abs Go.W
def oc (x:Int)(c:UInt8):Int:=(313*x+(c.toNat:Int)) % 9999889
def eR (s:List UInt8):Int:=s.foldl oc 1
theorem Rk:∀ (s:List UInt8) (x:Int),0≤x→x<9999889→0≤s.foldl oc x∧s.foldl oc x<9999889
 | [],x,h0,h1=>⟨h0,h1⟩
 |c::s,x,h0,h1=>Rk s (oc x c) (by unfold oc;omega) (by unfold oc;omega)
theorem wL (s:List UInt8):0≤eR s∧eR s<9999889:=Rk s 1 (by omega) (by omega)
def nz (n:Int):List UInt8:=List.replicate (7-(Lib.decDigits n.toNat).length) 48++Lib.decDigits n.toNat
theorem Rq {n:Int}(h0:0≤n)(h1:n<10000000):(nz n).length=7:=by
 have:=FO 6 n.toNat (by omega)
 unfold nz
 rw[I,List.length_replicate];omega
def yp (c:UInt8):Bool:=decide (48≤c.toNat)&&decide (c.toNat≤57)
theorem FQ {v:Int}(h:0≤v):Lib.itoa v=Lib.decDigits v.toNat:=by
 unfold Lib.itoa;rw[if_neg (by omega)]
def kh:List (List UInt8)→Option (List Int)
 | []=>Eb []
 |w::ws=>match kw w with
  |none=>Ek
  |some v=>match kh ws with
   |none=>Ek
   |some l=>Eb (v::l)
theorem qqp:∀ {ws:List (List UInt8)} {vs:List Int},kh ws=Eb vs→vs.map Lib.itoa=ws∧∀v∈vs,0≤v∧v<1000000000
 | [],vs,h=>by cases h;exact⟨rfl,by simp⟩
 |w::ws,vs,h=>by
  rw[kh]at h
  cases hw:kw w with
  |none=>rw[hw]at h;cases h
  |some v=>
   rw[hw]at h
   dsimp only at h
   cases hr:kh ws with
   |none=>rw[hr]at h;cases h
   |some l=>
    rw[hr]at h
    cases h
    have h1:=qzi hw
    have h2:=qqp hr
    have h3:=q2w hw
    refine⟨by rw[List.map_cons,FQ h1.1,h1.2,h2.1],fun x hx=>?_⟩
    rcases List.mem_cons.1 hx with rfl|hx
    ·exact h3
    ·exact h2.2 x hx
theorem q6u:∀ x∈ey,x.1≠[]∧(x.1.all fun c=>decide (97≤c.toNat))=true:=by decide
theorem qru {k:List UInt8}{f}(h:ln k=Eb f):(k,f)∈ey:=by
 unfold ln at h
 obtain⟨x,h1,rfl⟩:=Option.map_eq_some_iff.1 h
 have h2:=List.find?_some h1
 have h2:x.1=k:=by simpa using h2
 have h3:=List.mem_of_find?_eq_some h1
 subst h2
 exact h3
theorem qq6 {e:cB}(h:zu e=0):1≤e.number∧e.number≤1000∧(∃f,ln e.kind=Eb f∧e.names.length=f.1∧e.values.length=f.2)∧(∀s∈e.names,Go.W.b9 s=true)∧(∀v∈e.values,0≤v∧v≤999999999)∧e.text=[]:=by
 unfold zu at h
 split at h
 ·cases h
 rename_i hn
 split at h
 ·cases h
 rename_i f hf
 split at h
 ·cases h
 rename_i hl
 split at h
 ·cases h
 rename_i hs
 split at h
 ·cases h
 rename_i hv
 split at h
 ·cases h
 rename_i ht
 have hs:(e.names.all Go.W.b9)=true:=by simpa using hs
 have hv:(e.values.all fun n=>decide (0≤n)&&decide (n≤999999999))=true:=by simpa using hv
 refine⟨by omega,by omega,⟨f,hf,by omega,by omega⟩,fun s gR=>Ha.1 hs s gR,fun v qS=>?_,Classical.not_not.1 ht⟩
 have:=Ha.1 hv v qS
 simpa using this
def Rp (e:cB):List (List UInt8):=e.kind::(e.names++e.values.map Lib.itoa)
def y7 (e:cB):List UInt8:=Lib.join (Lib.itoa e.number::Rp e) [32]
def nA (e:cB):List UInt8:=y7 e++35::nz (eR (y7 e))
def lu (l:List (List UInt8))(n:Int):Option cB:=match l with
 | []=>Ek
 |k::r=>match ln k with
  |none=>Ek
  |some f=>if r.length=f.1+f.2∧[] ∉ r then(match kh (r.drop f.1)with
   |none=>Ek
   |some vs=>Eb ⟨n,k,r.take f.1,vs,[]⟩)else Ek
theorem Rr {l:List (List UInt8)}{n:Int}{e:cB}(h:lu l n=Eb e):e.number=n∧Rp e=l∧e.text=[]∧(∃f,ln e.kind=Eb f∧e.names.length=f.1∧e.values.length=f.2)∧∀v∈e.values,0≤v∧v<1000000000:=by
 unfold lu at h
 split at h
 ·cases h
 rename_i k r
 split at h
 ·cases h
 rename_i f hf
 split at h
 ·rename_i hl
  split at h
  ·cases h
  rename_i vs hv
  cases h
  have:=qqp hv
  refine⟨rfl,?_,rfl,⟨f,hf,?_,?_⟩,this.2⟩
  ·show k::(r.take f.1++vs.map Lib.itoa)=k::r
   rw[this.1,E3]
  ·show(r.take f.1).length=_
   rw[List.length_take];omega
  ·show vs.length=_
   have h2:=congrArg List.length this.1
   rw[List.length_map,List.length_drop]at h2
   omega
 ·cases h
def pO (s:List UInt8):Option cB:=match dz 32 s with
 | []=>Ek
 |w::r=>match kw w with
  |none=>Ek
  |some n=>match lu r n with
   |none=>Ek
   |some e=>if zu e=0 then Eb e else Ek
theorem q2p {s:List UInt8}{e:cB}(h:pO s=Eb e):y7 e=s∧zu e=0:=by
 unfold pO at h
 split at h
 ·cases h
 rename_i w r hs
 split at h
 ·cases h
 rename_i n hn
 split at h
 ·cases h
 rename_i e' hw
 split at h
 ·rename_i hc
  cases h
  have h1:=Rr hw
  have h2:=qzi hn
  refine⟨?_,hc⟩
  unfold y7
  rw[h1.1,h1.2.1,FQ h2.1,h2.2,←hs,q9o]
 ·cases h
def mT (s:List UInt8)(n:Nat):Except Int cB:=
 if s.length<8 then .error 26 else
 if s[s.length-8]?≠Eb 35∨(s.drop (s.length-7)).all yp=false then .error 26 else
 if s.drop (s.length-7)≠nz (eR (s.take (s.length-8)))then .error 28 else
 match pO (s.take (s.length-8))with
 |none=>.error 26
 |some e=>if e.number≠(n:Int)+1 then .error 11 else .ok e
theorem q0p (e:cB):(nA e).length=(y7 e).length+8:=by
 have:=wL (y7 e)
 unfold nA
 rw[I,Ec,Rq this.1 (by omega)]
theorem q41 {s:List UInt8}{n:Nat}{e:cB}(h:mT s n=.ok e):nA e=s∧zu e=0∧e.number=(n:Int)+1:=by
 unfold mT at h
 split at h
 ·cases h
 rename_i hl
 split at h
 ·cases h
 rename_i hs
 split at h
 ·cases h
 rename_i hc
 split at h
 ·cases h
 rename_i e' hp
 split at h
 ·cases h
 rename_i hn
 cases h
 obtain⟨h1,h2⟩:=q2p hp
 refine⟨?_,h2,Classical.not_not.1 hn⟩
 have hc:=Classical.not_not.1 hc
 have du:s[s.length-8]?=Eb 35:=Classical.not_not.1 fun e=>hs (.inl e)
 unfold nA
 rw[h1,←hc]
 have aC:s.length-8<s.length:=by omega
 have hd:s.drop (s.length-8)=35::s.drop (s.length-7):=by
  rw[List.drop_eq_getElem_cons aC,show s.length-8+1=s.length-7 by omega]
  rw[List.getElem?_eq_getElem aC]at du
  rw[Eb.inj du]
 rw[←hd,E3]
theorem Rt {s:List UInt8}{n:Nat}{k:Int}(h:mT s n=.error k):k≠0:=by
 unfold mT at h
 repeat' split at h
 all_goals first|(cases h;decide)|cases h
def kW:List (List UInt8)→Nat→List cB→List cB×Nat×Int
 | [],a,out=>(out,a,0)
 | [w],a,out=>(out,a,if w=[]then 0 else 29)
 |w::x::r,a,out=>match mT w out.length with
  | .error k=>(out,a,k)
  | .ok e=>kW (x::r) (a+w.length+1) (out++[e])
def jr (s:List UInt8):List cB×Nat×Int:=kW (dz 10 s) 0 []
def ke:List cB→List UInt8
 | []=>[]
 |e::l=>nA e++10::ke l
theorem qot:∀ l m:List cB,ke (l++m)=ke l++ke m
 | [],m=>rfl
 |e::l,m=>by rw[Gc,ke,ke,qot l m];simp
def FX:Nat→List cB→Prop
 |_,[]=>True
 |k,e::l=>zu e=0∧e.number=(k:Int)+1∧FX (k+1) l
theorem Rs {w:List UInt8}{t:List (List UInt8)}{a:Nat}{out:List cB}(ht:t≠[]):kW (w::t) a out=match mT w out.length with
  | .error k=>(out,a,k)
  | .ok e=>kW t (a+w.length+1) (out++[e]):=by
 cases t with
 |nil=>exact absurd rfl ht
 |cons x r=>rfl
theorem Jo {s:List UInt8}:∀ {a:Nat} {out:List cB},∃l,(kW (dz 10 s) a out).1=out++l∧FX out.length l∧(kW (dz 10 s) a out).2.1=a+(ke l).length∧(∃t,s=ke l++t∧((kW (dz 10 s) a out).2.2=0→t=[])):=by
 refine E8 (c:=10) (P:=fun s=>∀ {a:Nat} {out:List cB},∃l,(kW (dz 10 s) a out).1=out++l∧FX out.length l∧(kW (dz 10 s) a out).2.1=a+(ke l).length∧(∃t,s=ke l++t∧((kW (dz 10 s) a out).2.2=0→t=[]))) ?_ ?_ s.length s (Nat.le_refl _)
 ·intro s hs a out
  rw[nX hs]
  refine⟨[],by simp[kW],trivial,by simp[kW,ke],s,rfl,?_⟩
  intro h
  have h:(if s=[]then(0:Int)else 29)=0:=h
  split at h
  ·assumption
  ·cases h
 ·intro x b hx ih a out
  rw[rD hx,Rs (wq _ _)]
  cases hl:mT x out.length with
  |error k=>exact⟨[],by simp,trivial,by simp[ke],x++10::b,rfl,fun h=>absurd h (Rt hl)⟩
  |ok e=>
   obtain⟨h1,h2,h3⟩:=q41 hl
   obtain⟨l,k1,k2,k3,t,k4,k5⟩:=ih (a:=a+x.length+1) (out:=out++[e])
   rw[I,Ea]at k2
   refine⟨e::l,by rw[k1];simp,⟨h2,h3,k2⟩,?_,t,?_,k5⟩
   ·show(kW (dz 10 b) (a+x.length+1) (out++[e])).2.1=_
    rw[k3,ke,I,Ec,h1];omega
   ·rw[ke,h1,k4];simp
theorem qm3 (s:List UInt8):FX 0 (jr s).1∧(jr s).2.1=(ke (jr s).1).length∧((jr s).2.2=0→s=ke (jr s).1):=by
 obtain⟨l,h1,h2,h3,t,h4,h5⟩:=Jo (s:=s) (a:=0) (out:=[])
 have od:(jr s).1=l:=h1
 refine⟨by rw[od];exact h2,?_,fun h=>?_⟩
 ·rw[od]
  have:(jr s).2.1=0+(ke l).length:=h3
  omega
 ·rw[od]
  rw[h5 h]at h4
  simpa using h4
end Go.Z
