/-
  Equations of the executor, third part: loops over lists, strings, maps, slices that are written.
-/
import Derived.Test.YtnjngdcbkkonnaaGreatDoorAbsJ
set_option linter.unusedVariables false
set_option linter.unusedSimpArgs false
namespace Go.Abs
section
variable {p:AProg} {xc:XC} {h0:Nat} {al:Option (List Nat)} {e:Env} {h:Heap} {α:Type}
def outL {γ δ:Type} (En:γ→AExit × ASt) (Ex:δ→AExit × ASt):γ ⊕ δ→AExit × ASt
 | .inl s=>En s
 | .inr d=>Ex d
@[simp] theorem outL_inl {γ δ:Type} {En:γ→AExit × ASt} {Ex:δ→AExit × ASt} {s:γ}:outL En Ex (.inl s)=En s:=rfl
@[simp] theorem outL_inr {γ δ:Type} {En:γ→AExit × ASt} {Ex:δ→AExit × ASt} {s:δ}:outL En Ex (.inr s)=Ex s:=rfl
theorem loopX_out {c:ACode} {n:Nat} {r:AExit × ASt} (hr:r.1 ≠ .normal):loopX p c n (some r)=some r:=by
 obtain ⟨x,st⟩:=r
 cases x with
 | normal=>exact absurd rfl hr
 | ret=>rfl
 | exit id=>rfl
theorem gc_over {n:Nat} {st:ASt} {h':Heap} (hn:n=h.length) (hs:st.heap=h++h') (h1:belowEnv n st.env=true) (h2:belowHeap n h=true):gc n st=⟨st.env,h⟩:=by
 obtain ⟨ev,hp⟩:=st
 simp only at hs h1
 subst hs hn
 unfold gc
 cases h' with
 | nil=>simp
 | cons b h'=>
  have hle:Nat.ble (h++b::h').length h.length=false:=by
   rw [nat_ble]; simp
  simp only [hle,cond_false,List.take_left',h1,h2,Bool.and_self,cond_true]
def strIdxR (h:Heap) (x i:Option AVal):Option ORes:=match x,i with
 | some (.str s),some j=>(match idx s.length j with
   | some j=>(match s[j]? with
    | some c=>val h (.int .u8 c.toNat)
    | none=>none)
   | none=>none)
 | _,_=>none
@[go_sem] theorem str_eql {a b:List UInt8}:binOpA .eql (.str a) (.str b)=some (.bool (decide (a=b))):=by
 by_cases hab:a=b <;> simp [binOpA,binStr,hab]
@[go_sem] theorem str_neq {a b:List UInt8}:binOpA .neq (.str a) (.str b)=some (.bool (!decide (a=b))):=by
 by_cases hab:a=b <;> simp [binOpA,binStr,hab]
def srangeR (h0 r:Nat) (h:Heap) (x:Option AVal):Option ORes:=match x with
 | some (.str s)=>newR (newBox h0 h r (.iter s 0)) (.ptr (h0 + r) 0)
 | _=>none
@[go_sem] theorem srangeR_str {r:Nat} {s:List UInt8}:srangeR h0 r h (some (.str s))=newR (newBox h0 h r (.iter s 0)) (.ptr (h0 + r) 0):=rfl
@[go_sem] theorem s_srange {r:Nat} {x:AOpd}:stepOp p xc h0 al e h (.srange r x)=srangeR h0 r h (evalO e x):=by
 simp only [stepOp,stepWrite,srangeR]
 cases evalO e x with
 | none=>rfl
 | some v=>cases v with
  | str s=>simp only [newR]; cases newBox h0 h r (.iter s 0) <;> rfl
  | _=>rfl
def iterR (h:Heap) (b:Nat) (x:Option ABox):Option ORes:=match x with
 | some (.iter s pos)=>bif Nat.blt pos s.length then newR (setBox h b (.iter s (pos + (decodeA s pos).2))) (.tup [.bool true,.int .i64 pos,.int .i32 (decodeA s pos).1]) else val h (.tup [.bool false])
 | _=>none
theorem iterR_in {b pos:Nat} {s:List UInt8} (hp:pos < s.length):iterR h b (some (.iter s pos))=newR (setBox h b (.iter s (pos + (decodeA s pos).2))) (.tup [.bool true,.int .i64 pos,.int .i32 (decodeA s pos).1]):=by
 simp only [iterR,nat_blt,hp,decide_true,cond_true]
theorem iterR_out {b pos:Nat} {s:List UInt8} (hp:¬ pos < s.length):iterR h b (some (.iter s pos))=some ⟨.tup [.bool false],false,none,h⟩:=by
 simp only [iterR,nat_blt,hp,decide_false,cond_false,val]
def snextR (h0:Nat) (al:Option (List Nat)) (h:Heap) (x:Option AVal):Option ORes:=match x with
 | some (.ptr b 0)=>ifR (okBox h0 al b) (iterR h b h[b]?)
 | _=>none
@[go_sem] theorem snextR_ptr {b:Nat}:snextR h0 al h (some (.ptr b 0))=ifR (okBox h0 al b) (iterR h b h[b]?):=rfl
@[go_sem] theorem s_snext {x:AOpd}:stepOp p xc h0 al e h (.snext x)=snextR h0 al h (evalO e x):=by
 simp only [stepOp,stepWrite,snextR]
 cases evalO e x with
 | none=>rfl
 | some v=>cases v with
  | ptr b o=>
   cases o with
   | succ o=>rfl
   | zero=>
    simp only [ifR,getBox,iterR,newR]
    cases okBox h0 al b with
    | false=>rfl
    | true=>
     simp only [cond_true]
     cases h[b]? with
     | none=>rfl
     | some x=>cases x with
      | iter s pos=>
       simp only []
       cases Nat.blt pos s.length with
       | false=>rfl
       | true=>simp only [cond_true]; cases setBox h b (.iter s (pos + (decodeA s pos).2)) <;> rfl
      | _=>rfl
  | _=>rfl
theorem decode_lt {s:List UInt8} {i:Nat} {c:UInt8} (hc:s[i]?=some c) (hl:c.toNat < 128):decodeA s i=(c.toNat,1):=by
 have hg:(ByteArray.get! ⟨⟨s⟩⟩ (i + 0))=c:=by
  obtain ⟨h1,h2⟩:=List.getElem?_eq_some_iff.1 hc
  simp [ByteArray.get!,h1,h2]
 simp only [decodeA,Utf8.decode,hg,hl,if_true]
theorem decode_ge {s:List UInt8} {i:Nat} {c:UInt8} (hc:s[i]?=some c) (hl:¬ c.toNat < 128):128≤(decodeA s i).1:=by
 have hg:(ByteArray.get! ⟨⟨s⟩⟩ (i + 0))=c:=by
  obtain ⟨h1,h2⟩:=List.getElem?_eq_some_iff.1 hc
  simp [ByteArray.get!,h1,h2]
 simp only [decodeA,Utf8.decode,hg,hl,if_false,Utf8.runeError]
 split
 ·split <;> simp <;> omega
 ·split
  ·split
   ·next hh=>simp only [Bool.and_eq_true,decide_eq_true_eq] at hh; simp only; omega
   ·decide
  ·split
   ·split
    ·next hh=>simp only [Bool.and_eq_true,decide_eq_true_eq] at hh; simp only; omega
    ·decide
   ·decide
def lookE (h:Heap) (zero:AVal) (r:Option (Option (Nat × AVal))):Option ORes:=match r with
 | some (some (_,v))=>val h v
 | some none=>val h zero
 | none=>none
@[go_sem] theorem lookE_some {z v:AVal} {i:Nat}:lookE h z (some (some (i,v)))=some ⟨v,false,none,h⟩:=rfl
@[go_sem] theorem lookE_none {z:AVal}:lookE h z (some none)=some ⟨z,false,none,h⟩:=rfl
def lookB (h:Heap) (kd:Kd) (z kv:AVal) (x:Option ABox):Option ORes:=match x with
 | some (.map es)=>lookE h z (findEntry kd kv es 0)
 | _=>none
@[go_sem] theorem lookB_map {kd:Kd} {z kv:AVal} {es:List (AVal × AVal)}:lookB h kd z kv (some (.map es))=lookE h z (findEntry kd kv es 0):=rfl
def lookupR (h0:Nat) (al:Option (List Nat)) (h:Heap) (kd:Kd) (z:AVal) (m k:Option AVal):Option ORes:=match m,k with
 | some (.map b),some kv=>ifR (okBox h0 al b) (lookB h kd z kv h[b]?)
 | some .nilmap,some _=>val h z
 | _,_=>none
@[go_sem] theorem lookupR_map {kd:Kd} {z kv:AVal} {b:Nat}:lookupR h0 al h kd z (some (.map b)) (some kv)=ifR (okBox h0 al b) (lookB h kd z kv h[b]?):=rfl
@[go_sem] theorem s_lookup {kd:Kd} {z:AVal} {m k:AOpd}:stepOp p xc h0 al e h (.lookup kd z false m k)=lookupR h0 al h kd z (evalO e m) (evalO e k):=by
 simp only [stepOp,stepRead,lookupR]
 cases evalO e m with
 | none=>cases evalO e k <;> rfl
 | some v=>cases evalO e k with
  | none=>cases v <;> rfl
  | some kv=>cases v with
   | map b=>
    simp only [ifR,getBox,lookB,lookE]
    cases okBox h0 al b with
    | false=>rfl
    | true=>
     simp only [cond_true]
     cases h[b]? with
     | none=>rfl
     | some x=>cases x with
      | map es=>
       simp only []
       cases findEntry kd kv es 0 with
       | none=>rfl
       | some r=>cases r <;> rfl
      | _=>rfl
   | _=>rfl
def updE (h:Heap) (b:Nat) (es:List (AVal × AVal)) (kv v:AVal) (r:Option (Option (Nat × AVal))):Option ORes:=match r with
 | some (some (i,_))=>newR (setBox h b (.map (updEntry es i v))) .undef
 | some none=>ifR (Nat.ble es.length 1073741824) (newR (setBox h b (.map (es++[(kv,v)]))) .undef)
 | none=>none
@[go_sem] theorem updE_none {b:Nat} {es:List (AVal × AVal)} {kv v:AVal}:updE h b es kv v (some none)=ifR (Nat.ble es.length 1073741824) (newR (setBox h b (.map (es++[(kv,v)]))) .undef):=rfl
def updB (h:Heap) (b:Nat) (kd:Kd) (kv v:AVal) (x:Option ABox):Option ORes:=match x with
 | some (.map es)=>updE h b es kv v (findEntry kd kv es 0)
 | _=>none
@[go_sem] theorem updB_map {b:Nat} {kd:Kd} {kv v:AVal} {es:List (AVal × AVal)}:updB h b kd kv v (some (.map es))=updE h b es kv v (findEntry kd kv es 0):=rfl
def updR (h0:Nat) (al:Option (List Nat)) (h:Heap) (kd:Kd) (m k x:Option AVal):Option ORes:=match m,k,x with
 | some (.map b),some kv,some v=>ifR (okBox h0 al b) (updB h b kd kv v h[b]?)
 | _,_,_=>none
@[go_sem] theorem updR_map {b:Nat} {kd:Kd} {kv v:AVal}:updR h0 al h kd (some (.map b)) (some kv) (some v)=ifR (okBox h0 al b) (updB h b kd kv v h[b]?):=rfl
@[go_sem] theorem s_mapUpdate {kd:Kd} {m k x:AOpd}:stepOp p xc h0 al e h (.mapUpdate kd m k x)=updR h0 al h kd (evalO e m) (evalO e k) (evalO e x):=by
 simp only [stepOp,stepWrite,updR]
 cases evalO e m with
 | none=>cases evalO e k <;> cases evalO e x <;> rfl
 | some v=>cases evalO e k with
  | none=>cases v <;> cases evalO e x <;> rfl
  | some kv=>cases evalO e x with
   | none=>cases v <;> rfl
   | some xv=>cases v with
    | map b=>
     simp only [ifR,getBox,updB,updE,newR]
     cases okBox h0 al b with
     | false=>rfl
     | true=>
      simp only [cond_true]
      cases h[b]? with
      | none=>rfl
      | some x=>cases x with
       | map es=>
        simp only []
        cases findEntry kd kv es 0 with
        | none=>rfl
        | some r=>cases r with
         | none=>
          simp only []
          cases Nat.ble es.length 1073741824 with
          | false=>rfl
          | true=>simp only [cond_true]; cases setBox h b (.map (es++[(kv,xv)])) <;> rfl
         | some r=>simp only []; cases setBox h b (.map (updEntry es r.1 xv)) <;> rfl
       | _=>rfl
    | _=>rfl
def setOf (l:List (List UInt8)):List (AVal × AVal):=l.map fun s=>(.str s,.bool true)
theorem find_set (s:List UInt8):∀ (l:List (List UInt8)) (i:Nat),findEntry .str (.str s) (setOf l) i=some (if s∈l then some (i + l.idxOf s,.bool true) else none)
 | [],i=>by simp [setOf,findEntry]
 | a::l,i=>by
  show findEntry .str (.str s) ((.str a,.bool true)::setOf l) i=_
  simp only [findEntry,eqCell]
  by_cases hs:s=a
  ·subst hs; simp
  ·have hb:(s == a)=false:=by simp [hs]
   have ha:¬ a=s:=fun hh=>hs hh.symm
   simp only [hb]
   rw [find_set s l (i + 1)]
   by_cases hm:s∈l
   ·have hb':(a == s)=false:=by simp [ha]
    simp [hm,List.idxOf_cons,hb']; omega
   ·simp [hm,hs]
@[go_sem] theorem find_str {s:List UInt8} {l:List (List UInt8)}:findEntry .str (.str s) (setOf l) 0=some (if s∈l then some (l.idxOf s,.bool true) else none):=by
 rw [find_set]; simp
theorem setOf_snoc (l:List (List UInt8)) (s:List UInt8):setOf l++[(.str s,.bool true)]=setOf (l++[s]):=by simp [setOf]
@[go_sem] theorem setOf_len {l:List (List UInt8)}:(setOf l).length=l.length:=by simp [setOf]
def indexArrR (agg:Bool) (len sz:Nat) (h:Heap) (x i:Option AVal):Option ORes:=match x,i with
  | some (.ptr b o),some j=>(match idx len j with
   | some j=>val h (.ptr b (o + j * sz))
   | none=>none)
  | some (.vptr (.agg cs)),some j=>(match idx len j with
   | some j=>(match part agg cs (j * sz) sz with
    | some v=>bif Bool.xor agg v.isAgg then none else val h (.vptr v)
    | none=>none)
   | none=>none)
  | _,_=>none
@[go_sem] theorem s_indexArr {agg:Bool} {len sz:Nat} {x i:AOpd}:stepOp p xc h0 al e h (.indexArr agg len sz x i)=indexArrR agg len sz h (evalO e x) (evalO e i):=rfl
end
end Go.Abs
