/-
  Equations of the executor, third part: loops over lists, strings, maps, slices that are written.
-/
import Derived.Test.YtnjngdcbkkonnaaGreatDoorAbsJ
set_option linter.unusedVariables false
set_option linter.unusedSimpArgs false
namespace Go.Abs
section
variable {p:jj} {xc:XC} {h0:Nat} {al:Option (List Nat)} {e:Env} {h:qn} {α:Type}
def q8m {γ δ:Type} (En:γ→je × ASt) (Ex:δ→je × ASt):γ ⊕ δ→je × ASt
 | .inl s=>En s
 | .inr d=>Ex d
@[simp] theorem jis {γ δ:Type} {En:γ→je × ASt} {Ex:δ→je × ASt} {s:γ}:q8m En Ex (.inl s)=En s:=rfl
@[simp] theorem jkv {γ δ:Type} {En:γ→je × ASt} {Ex:δ→je × ASt} {s:δ}:q8m En Ex (.inr s)=Ex s:=rfl
theorem q0c {c:ACode} {n:Nat} {r:je × ASt} (hr:r.1 ≠ .normal):qhn p c n (some r)=some r:=by
 obtain ⟨x,st⟩:=r
 cases x with
 | normal=>exact absurd rfl hr
 | ret=>rfl
 | exit id=>rfl
theorem yd {n:Nat} {st:ASt} {h':qn} (hn:n=h.length) (hs:st.heap=h++h') (h1:qal n st.env=true) (h2:yl n h=true):gc n st=⟨st.env,h⟩:=by
 obtain ⟨ev,hp⟩:=st
 simp only at hs h1
 subst hs hn
 unfold gc
 cases h' with
 | nil=>simp
 | cons b h'=>
  have hle:Nat.ble (h++b::h').length h.length=false:=by
   rw [ke]; simp
  simp only [hle,cond_false,List.take_left',h1,h2,Bool.and_self,cond_true]
def qit (h:qn) (x i:Option AVal):Option ORes:=match x,i with
 | some (.str s),some j=>(match idx s.length j with
   | some j=>(match s[j]? with
    | some c=>val h (.int .u8 c.toNat)
    | none=>none)
   | none=>none)
 | _,_=>none
@[go_sem] theorem jcs {x i:qt}:qe p xc h0 al e h (.strIndex x i)=qit h (qi e x) (qi e i):=by
 simp only [qe,qr,qit]
 cases qi e x with
 | none=>rfl
 | some v=>cases v with
  | str s=>cases qi e i <;> rfl
  | _=>cases qi e i <;> rfl
theorem qyr {s:List UInt8} {k:IntKind} {i:Nat} {c:UInt8} (hc:s[i]?=some c):qit h (some (.str s)) (some (.int k (i:Int)))=some ⟨.int .u8 c.toNat,false,none,h⟩:=by
 have hl:i < s.length:=(List.getElem?_eq_some_iff.1 hc).1
 have:idx s.length (.int k (i:Int))=some i:=by rw [qfy,qs5 hl]
 simp only [qit,this,hc,val]
@[go_sem] theorem jl8 {a b:List UInt8}:zr .eql (.str a) (.str b)=some (.bool (decide (a=b))):=by
 by_cases hab:a=b <;> simp [zr,qic,hab]
@[go_sem] theorem jmo {a b:List UInt8}:zr .neq (.str a) (.str b)=some (.bool (!decide (a=b))):=by
 by_cases hab:a=b <;> simp [zr,qic,hab]
def qp9 (h0 r:Nat) (h:qn) (x:Option AVal):Option ORes:=match x with
 | some (.str s)=>kc (newBox h0 h r (.iter s 0)) (.ptr (h0 + r) 0)
 | _=>none
@[go_sem] theorem q9e {r:Nat} {s:List UInt8}:qp9 h0 r h (some (.str s))=kc (newBox h0 h r (.iter s 0)) (.ptr (h0 + r) 0):=rfl
@[go_sem] theorem ji4 {r:Nat} {x:qt}:qe p xc h0 al e h (.srange r x)=qp9 h0 r h (qi e x):=by
 simp only [qe,qw,qp9]
 cases qi e x with
 | none=>rfl
 | some v=>cases v with
  | str s=>simp only [kc]; cases newBox h0 h r (.iter s 0) <;> rfl
  | _=>rfl
def qfg (h:qn) (b:Nat) (x:Option ABox):Option ORes:=match x with
 | some (.iter s pos)=>bif Nat.blt pos s.length then kc (jn h b (.iter s (pos + (qk s pos).2))) (.tup [.bool true,.int .i64 pos,.int .i32 (qk s pos).1]) else val h (.tup [.bool false])
 | _=>none
theorem q1f {b pos:Nat} {s:List UInt8} (hp:pos < s.length):qfg h b (some (.iter s pos))=kc (jn h b (.iter s (pos + (qk s pos).2))) (.tup [.bool true,.int .i64 pos,.int .i32 (qk s pos).1]):=by
 simp only [qfg,qav,hp,decide_true,cond_true]
theorem qyt {b pos:Nat} {s:List UInt8} (hp:¬ pos < s.length):qfg h b (some (.iter s pos))=some ⟨.tup [.bool false],false,none,h⟩:=by
 simp only [qfg,qav,hp,decide_false,cond_false,val]
def qsa (h0:Nat) (al:Option (List Nat)) (h:qn) (x:Option AVal):Option ORes:=match x with
 | some (.ptr b 0)=>ifR (ju h0 al b) (qfg h b h[b]?)
 | _=>none
@[go_sem] theorem jfe {b:Nat}:qsa h0 al h (some (.ptr b 0))=ifR (ju h0 al b) (qfg h b h[b]?):=rfl
@[go_sem] theorem jma {x:qt}:qe p xc h0 al e h (.snext x)=qsa h0 al h (qi e x):=by
 simp only [qe,qw,qsa]
 cases qi e x with
 | none=>rfl
 | some v=>cases v with
  | ptr b o=>
   cases o with
   | succ o=>rfl
   | zero=>
    simp only [ifR,z8,qfg,kc]
    cases ju h0 al b with
    | false=>rfl
    | true=>
     simp only [cond_true]
     cases h[b]? with
     | none=>rfl
     | some x=>cases x with
      | iter s pos=>
       simp only []
       cases Nat.blt pos s.length with
       | false=>rfl
       | true=>simp only [cond_true]; cases jn h b (.iter s (pos + (qk s pos).2)) <;> rfl
      | _=>rfl
  | _=>rfl
theorem q0j {s:List UInt8} {i:Nat} {c:UInt8} (hc:s[i]?=some c) (hl:c.toNat < 128):qk s i=(c.toNat,1):=by
 have hg:(ByteArray.get! ⟨⟨s⟩⟩ (i + 0))=c:=by
  obtain ⟨h1,h2⟩:=List.getElem?_eq_some_iff.1 hc
  simp [ByteArray.get!,h1,h2]
 simp only [qk,Utf8.decode,hg,hl,if_true]
theorem qy3 {s:List UInt8} {i:Nat} {c:UInt8} (hc:s[i]?=some c) (hl:¬ c.toNat < 128):128≤(qk s i).1:=by
 have hg:(ByteArray.get! ⟨⟨s⟩⟩ (i + 0))=c:=by
  obtain ⟨h1,h2⟩:=List.getElem?_eq_some_iff.1 hc
  simp [ByteArray.get!,h1,h2]
 simp only [qk,Utf8.decode,hg,hl,if_false,Utf8.runeError]
 split
 ·split <;> simp <;> omega
 ·split
  ·split
   ·next hh=>simp only [Bool.and_eq_true,decide_eq_true_eq] at hh; simp only; omega
   ·decide
  ·split
   ·split
    ·next hh=>simp only [Bool.and_eq_true,decide_eq_true_eq] at hh; simp only; omega
    ·decide
   ·decide
def qn7 (h:qn) (zero:AVal) (r:Option (Option (Nat × AVal))):Option ORes:=match r with
 | some (some (_,v))=>val h v
 | some none=>val h zero
 | none=>none
@[go_sem] theorem qyf {z v:AVal} {i:Nat}:qn7 h z (some (some (i,v)))=some ⟨v,false,none,h⟩:=rfl
@[go_sem] theorem qya {z:AVal}:qn7 h z (some none)=some ⟨z,false,none,h⟩:=rfl
def qpe (h:qn) (kd:Kd) (z kv:AVal) (x:Option ABox):Option ORes:=match x with
 | some (.map es)=>qn7 h z (jr kd kv es 0)
 | _=>none
@[go_sem] theorem qzl {kd:Kd} {z kv:AVal} {es:List (AVal × AVal)}:qpe h kd z kv (some (.map es))=qn7 h z (jr kd kv es 0):=rfl
def qpu (h0:Nat) (al:Option (List Nat)) (h:qn) (kd:Kd) (z:AVal) (m k:Option AVal):Option ORes:=match m,k with
 | some (.map b),some kv=>ifR (ju h0 al b) (qpe h kd z kv h[b]?)
 | some .nilmap,some _=>val h z
 | _,_=>none
@[go_sem] theorem q9l {kd:Kd} {z kv:AVal} {b:Nat}:qpu h0 al h kd z (some (.map b)) (some kv)=ifR (ju h0 al b) (qpe h kd z kv h[b]?):=rfl
@[go_sem] theorem jjt {kd:Kd} {z:AVal} {m k:qt}:qe p xc h0 al e h (.lookup kd z false m k)=qpu h0 al h kd z (qi e m) (qi e k):=by
 simp only [qe,zx,qpu]
 cases qi e m with
 | none=>cases qi e k <;> rfl
 | some v=>cases qi e k with
  | none=>cases v <;> rfl
  | some kv=>cases v with
   | map b=>
    simp only [ifR,z8,qpe,qn7]
    cases ju h0 al b with
    | false=>rfl
    | true=>
     simp only [cond_true]
     cases h[b]? with
     | none=>rfl
     | some x=>cases x with
      | map es=>
       simp only []
       cases jr kd kv es 0 with
       | none=>rfl
       | some r=>cases r <;> rfl
      | _=>rfl
   | _=>rfl
def qw1 (h:qn) (b:Nat) (es:List (AVal × AVal)) (kv v:AVal) (r:Option (Option (Nat × AVal))):Option ORes:=match r with
 | some (some (i,_))=>kc (jn h b (.map (kw es i v))) .undef
 | some none=>ifR (Nat.ble es.length 1073741824) (kc (jn h b (.map (es++[(kv,v)]))) .undef)
 | none=>none
@[go_sem] theorem qzf {b:Nat} {es:List (AVal × AVal)} {kv v:AVal}:qw1 h b es kv v (some none)=ifR (Nat.ble es.length 1073741824) (kc (jn h b (.map (es++[(kv,v)]))) .undef):=rfl
def qpx (h:qn) (b:Nat) (kd:Kd) (kv v:AVal) (x:Option ABox):Option ORes:=match x with
 | some (.map es)=>qw1 h b es kv v (jr kd kv es 0)
 | _=>none
@[go_sem] theorem quc {b:Nat} {kd:Kd} {kv v:AVal} {es:List (AVal × AVal)}:qpx h b kd kv v (some (.map es))=qw1 h b es kv v (jr kd kv es 0):=rfl
def q22 (h0:Nat) (al:Option (List Nat)) (h:qn) (kd:Kd) (m k x:Option AVal):Option ORes:=match m,k,x with
 | some (.map b),some kv,some v=>ifR (ju h0 al b) (qpx h b kd kv v h[b]?)
 | _,_,_=>none
@[go_sem] theorem jl0 {b:Nat} {kd:Kd} {kv v:AVal}:q22 h0 al h kd (some (.map b)) (some kv) (some v)=ifR (ju h0 al b) (qpx h b kd kv v h[b]?):=rfl
@[go_sem] theorem q91 {kd:Kd} {m k x:qt}:qe p xc h0 al e h (.mapUpdate kd m k x)=q22 h0 al h kd (qi e m) (qi e k) (qi e x):=by
 simp only [qe,qw,q22]
 cases qi e m with
 | none=>cases qi e k <;> cases qi e x <;> rfl
 | some v=>cases qi e k with
  | none=>cases v <;> cases qi e x <;> rfl
  | some kv=>cases qi e x with
   | none=>cases v <;> rfl
   | some xv=>cases v with
    | map b=>
     simp only [ifR,z8,qpx,qw1,kc]
     cases ju h0 al b with
     | false=>rfl
     | true=>
      simp only [cond_true]
      cases h[b]? with
      | none=>rfl
      | some x=>cases x with
       | map es=>
        simp only []
        cases jr kd kv es 0 with
        | none=>rfl
        | some r=>cases r with
         | none=>
          simp only []
          cases Nat.ble es.length 1073741824 with
          | false=>rfl
          | true=>simp only [cond_true]; cases jn h b (.map (es++[(kv,xv)])) <;> rfl
         | some r=>simp only []; cases jn h b (.map (kw es r.1 xv)) <;> rfl
       | _=>rfl
    | _=>rfl
def ym (l:List (List UInt8)):List (AVal × AVal):=l.map fun s=>(.str s,.bool true)
theorem qsh (s:List UInt8):∀ (l:List (List UInt8)) (i:Nat),jr .str (.str s) (ym l) i=some (if s∈l then some (i + l.idxOf s,.bool true) else none)
 | [],i=>by simp [ym,jr]
 | a::l,i=>by
  show jr .str (.str s) ((.str a,.bool true)::ym l) i=_
  simp only [jr,kf]
  by_cases hs:s=a
  ·subst hs; simp
  ·have hb:(s == a)=false:=by simp [hs]
   have ha:¬ a=s:=fun hh=>hs hh.symm
   simp only [hb]
   rw [qsh s l (i + 1)]
   by_cases hm:s∈l
   ·have hb':(a == s)=false:=by simp [ha]
    simp [hm,List.idxOf_cons,hb']; omega
   ·simp [hm,hs]
@[go_sem] theorem qn1 {s:List UInt8} {l:List (List UInt8)}:jr .str (.str s) (ym l) 0=some (if s∈l then some (l.idxOf s,.bool true) else none):=by
 rw [qsh]; simp
theorem qxr (l:List (List UInt8)) (s:List UInt8):ym l++[(.str s,.bool true)]=ym (l++[s]):=by simp [ym]
@[go_sem] theorem q0h {l:List (List UInt8)}:(ym l).length=l.length:=by simp [ym]
def qg4 (agg:Bool) (len sz:Nat) (h:qn) (x i:Option AVal):Option ORes:=match x,i with
  | some (.ptr b o),some j=>(match idx len j with
   | some j=>val h (.ptr b (o + j * sz))
   | none=>none)
  | some (.vptr (.agg cs)),some j=>(match idx len j with
   | some j=>(match part agg cs (j * sz) sz with
    | some v=>bif Bool.xor agg v.isAgg then none else val h (.vptr v)
    | none=>none)
   | none=>none)
  | _,_=>none
@[go_sem] theorem jen {agg:Bool} {len sz:Nat} {x i:qt}:qe p xc h0 al e h (.indexArr agg len sz x i)=qg4 agg len sz h (qi e x) (qi e i):=rfl
end
end Go.Abs
