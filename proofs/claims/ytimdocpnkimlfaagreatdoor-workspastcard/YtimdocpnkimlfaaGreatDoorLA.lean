/- The library's functions in the abstract machine. -/
import Derived.Test.YtimdocpnkimlfaaGreatDoorZS
import Derived.Test.YtimdocpnkimlfaaGreatDoorZP
import Derived.Lib.AppendIntMem
import Derived.Test.YtimdocpnkimlfaaGreatDoorZM
import Derived.Test.YtimdocpnkimlfaaGreatDoorL1
set_option linter.unusedVariables false
set_option linter.unusedSimpArgs false
set_option maxRecDepth 100000
open Bool renaming false→I,and_eq_true→Gb,cond_eq_ite→Gh,true→Gi,false_eq_true→Gm
open Option renaming some→En,none→Gj
open Nat renaming eq_of_beq_eq_true→Ga,beq→Gd,le_of_ble_eq_true→Ge,blt→Gn,ble→Gq,blt_eq→Gx
open List renaming length_map→Gr,isPrefixOf→Gs,length_singleton→Gt,cons_append→Gy,mem_map→Gz,map_map→G7
namespace Go.Z
open Go Go.Abs Go.Proofs Go.RowKit
theorem q4u {C}:∀(l:List ByteArray),aW C (l.map fun s=>.str s.data.toList) (l.map Value.string)
 | []=>.nil
 |s::l=>.cons _ _ _ _ (show bR C (.str s.data.toList) (.string s)from .str _) (q4u l)
theorem q2y {C r}:∀ {ss:List (List UInt8)} {o:Nat},bz C r 1 (ss.map AVal.str) o→∀(j:Nat) s,ss[j]?=En s→C.K r (o+j)=En (.string ⟨⟨s⟩⟩)
 | [],o,_,j,s,hj=>by simp at hj
 |x::ss,o,h,j,s,hj=>by
  cases h with
  |dH _ _ _ _ _ hs hx hr=>
   cases j with
   |zero=>
    simp only[List.getElem?_cons_zero,En.injEq]at hj
    subst hj
    cases hx with
    |dO _ _ _ _ u hv hu _=>
     rw[Nat.add_zero,hv,bR.cw hu]
   |succ j=>
    have:=q2y hr j s (by simpa using hj)
    rw[show o+(j+1)=o+1+j by omega]
    exact this
theorem Uv {w w'}(h:Below w.heap.size w w'):Ext w w':=⟨h.size,h.block,h.os,h.output⟩
theorem jmb {n}(h0:-9223372036854775808≤n)(h1:n≤9223372036854775807):IsoCall Tryz.prog 103 [.int .i64 n] (.str (Lib.itoa n)) I:=by
 refine GX fun K w vs ht hk hr=>?_
 cases hr with
 |cons _ _ v vs hx hr=>
  cases hr
  obtain rfl:=bR.bU hx
  have hg:Tryz.prog.globalNamed nX=En 1:=by kernel_rfl
  refine⟨.string ⟨⟨Lib.itoa n⟩⟩,.str _,(Tryz.strconv_Itoa n h0 h1 w (ht.table hg)).mono ?_⟩
  rintro e w' ⟨rfl,k,os,rfl⟩
  exact⟨rfl,Uv (Lib.below_grow w.heap.size w (Nat.le_refl _) k os)⟩
theorem q0r {s c}:IsoCall Tryz.prog 254 [.str s,.int .u8 c] (.int .i64 (Lib.indexByte s c.toNat.toUInt8)) I:=by
 refine GX fun K w vs ht hk hr=>?_
 cases hr with
 |cons _ _ v vs hx hr=>
  cases hr with
  |cons _ _ v2 vs iP hr=>
   cases hr
   obtain rfl:=bR.cw hx
   obtain rfl:=bR.bU iP
   refine⟨_,.int _ _,(Tryz.stringslite_IndexByte ⟨⟨s⟩⟩ c w).mono ?_⟩
   rintro e w' ⟨rfl,rfl⟩
   exact⟨rfl,Ext.refl _⟩
theorem jc0 {s p}(hs:s.length<4294967281)(hp:1≤p.length):IsoCall Tryz.prog 44 [.str s,.str p] (.list I 1 ((Lib.splitB ⟨⟨p⟩⟩ 0 (Lib.countB ⟨⟨s⟩⟩ ⟨⟨p⟩⟩) ⟨⟨s⟩⟩).map fun x=>.str x.data.toList)) I:=by
 refine jhe (us:=(Lib.splitB ⟨⟨p⟩⟩ 0 (Lib.countB ⟨⟨s⟩⟩ ⟨⟨p⟩⟩) ⟨⟨s⟩⟩).map Value.string) (t:=9) (fun x hx=>?_) (fun K=>q4u _) (fun u hu=>?_) fun K w vs ht hk hr=>?_
 ·obtain⟨y,_,rfl⟩:=Gz.1 hx;rfl
 ·obtain⟨y,_,rfl⟩:=Gz.1 hu;rfl
 ·cases hr with
  |cons _ _ v vs hx hr=>
   cases hr with
   |cons _ _ v2 vs iP hr=>
    cases hr
    obtain rfl:=bR.cw hx
    obtain rfl:=bR.cw iP
    have hg0:Tryz.prog.globalNamed xZ=En 0:=by kernel_rfl
    obtain⟨m,hm⟩:=ht.length hg0
    refine(Tryz.strings_Split ⟨⟨s⟩⟩ ⟨⟨p⟩⟩ m w hs hm hp).mono ?_
    rintro e w' ⟨rfl,rfl⟩
    refine⟨?_,rfl⟩
    rw[Gr,Lib.splitB_all ⟨⟨p⟩⟩ hp 0 _ ⟨⟨s⟩⟩ rfl]
theorem jg6 {ss p}(bI:ss≠[])(hN:ss.length≤140737488355328)(hlen:(Lib.join ss p).length≤140737488355328):IsoCall Tryz.prog 105 [.list I 1 (ss.map .str),.str p] (.str (Lib.join ss p)) I:=by
 refine GX fun K w vs ht hk hr=>?_
 cases hr with
 |cons _ _ v vs hx hr=>
  cases hr with
  |cons _ _ v2 vs iP hr=>
   cases hr
   obtain rfl:=bR.cw iP
   have hl:∃r o cap,v=.slice (En ⟨r,o,Gj⟩) (ss.map AVal.str).length cap∧(ss.map AVal.str).length≤cap∧bz (.bY K) r 1 (ss.map .str) o:=by
    generalize hq:ss.map AVal.str=q at hx
    cases hx with
    |list _ _ r o cap hl dp=>exact⟨r,o,cap,rfl,hl,dp⟩
    |jJ _ a hs=>exact absurd (List.map_eq_nil_iff.1 hq) bI
   obtain⟨r,o,cap,rfl,hcap,dp⟩:=hl
   have lD:(ss.map fun s=>(⟨⟨s⟩⟩:ByteArray)).map (·.data.toList)=ss:=by
    rw[G7]
    exact List.map_id' _
   have hcells:∀(j:Nat) x,(ss.map fun s=>(⟨⟨s⟩⟩:ByteArray))[j]?=En x→w.cell? ⟨r,o+j,Gj⟩=En (.string x):=by
    intro j x hj
    rw[List.getElem?_map,Option.map_eq_some_iff]at hj
    obtain⟨s,hs,rfl⟩:=hj
    exact hk _ _ _ (q2y dp j s hs)
   have hbk:r<w.heap.size:=by
    cases vd:ss with
    |nil=>exact absurd vd bI
    |cons s l=>
     have:=hcells 0 ⟨⟨s⟩⟩ (by rw[vd];rfl)
     rcases Nat.lt_or_ge r w.heap.size with h|h
     ·exact h
     ·simp[World.cell?,Array.getElem?_eq_none h]at this
   have hj:=Tryz.strings_Join r o cap (ss.map fun s=>(⟨⟨s⟩⟩:ByteArray)) ⟨⟨p⟩⟩ w hcells hbk (by simpa using hN) (by simpa using hcap) (by rw[lD];exact hlen)
   rw[lD,Gr]at hj
   rw[Gr]
   refine⟨.string ⟨⟨Lib.join ss p⟩⟩,.str _,hj.mono ?_⟩
   rintro e w' ⟨rfl,hb⟩
   exact⟨rfl,Uv hb⟩
theorem jan {s:List UInt8}{c}(hc:c≤9223372036854775807)(hlen:s.length*c≤140737488355328):IsoCall Tryz.prog 196 [.str s,.int .i64 (c:Int)] (.str (Lib.repeatL s c)) I:=by
 refine GX fun K w vs ht hk hr=>?_
 cases hr with
 |cons _ _ v vs hx hr=>
  cases hr with
  |cons _ _ v2 vs iP hr=>
   cases hr
   obtain rfl:=bR.cw hx
   obtain rfl:=bR.bU iP
   refine⟨.string ⟨⟨Lib.repeatL s c⟩⟩,.str _,(Tryz.strings_Repeat ⟨⟨s⟩⟩ c w hc hlen).mono ?_⟩
   rintro e w' ⟨rfl,hb⟩
   exact⟨rfl,Uv hb⟩
theorem q00 {p}:IsoCall Tryz.prog 105 [.list Gi 0 [],.str p] (.str []) I:=by
 refine GX fun K w vs ht hk hr=>?_
 cases hr with
 |cons _ _ v vs hx hr=>
  cases hr with
  |cons _ _ v2 vs iP hr=>
   cases hr
   obtain rfl:=bR.cw iP
   cases hx
   refine⟨.string ⟨#[]⟩,.str _,(Tryz.strings_Join_none _ _ ⟨⟨p⟩⟩ w).mono ?_⟩
   rintro e w' ⟨rfl,rfl⟩
   exact⟨rfl,Ext.refl _⟩
end Go.Z
namespace Go.Z
open Go Go.Abs Go.Proofs
def wX (c:UInt8)(acc:List UInt8):List UInt8→List (List UInt8)
 | []=>[acc]
 |x::t=>if x=c then acc::wX c [] t else wX c (acc++[x]) t
def wY (c:UInt8)(s:List UInt8):List (List UInt8):=wX c [] s
theorem q73 {c}:∀ {s:List UInt8} {acc:List UInt8},c ∉ s→wX c acc s=[acc++s]
 | [],acc,_=>by simp[wX]
 |x::t,acc,h=>by
  have h1:x≠c:=fun e=>h (by simp[e])
  have h2:c ∉ t:=fun e=>h (by simp[e])
  rw[wX,if_neg h1,q73 h2]
  simp
theorem q79 {c}:∀ {a b acc:List UInt8},c ∉ a→wX c acc (a++c::b)=(acc++a)::wY c b
 | [],b,acc,_=>by simp[wX,wY]
 |x::t,b,acc,h=>by
  have h1:x≠c:=fun e=>h (by simp[e])
  have h2:c ∉ t:=fun e=>h (by simp[e])
  rw[Gy,wX,if_neg h1,q79 h2]
  simp
theorem jtw {c s}(h:c ∉ s):wY c s=[s]:=q73 h
theorem jx3 {c a b}(h:c ∉ a):wY c (a++c::b)=a::wY c b:=q79 h
theorem jej (c:UInt8)(s:List UInt8):c ∉ s∨∃a b,s=a++c::b∧c ∉ a:=by
 by_cases h:c∈s
 ·obtain⟨a,b,h1,h2⟩:=List.eq_append_cons_of_mem h
  exact .inr ⟨a,b,h1,h2⟩
 ·exact .inl h
theorem q8b {c:UInt8}{P:List UInt8→Prop}(h0:∀s,c ∉ s→P s)(h1:∀a b,c ∉ a→P b→P (a++c::b)):∀(n:Nat) (s:List UInt8),s.length≤n→P s
 |0,s,hn=>h0 s (by rw[List.length_eq_zero_iff.1 (by omega:s.length=0)];simp)
 |n+1,s,hn=>by
  rcases jej c s with h|⟨a,b,rfl,h⟩
  ·exact h0 s h
  ·exact h1 a b h (q8b h0 h1 n b (by simp only[List.length_append,List.length_cons]at hn;omega))
theorem q22 {c}:∀ {s:List UInt8},c ∉ s→Lib.index s [c]=-1
 | [],_=>rfl
 |x::t,h=>by
  have h1:x≠c:=fun e=>h (by simp[e])
  have h2:c ∉ t:=fun e=>h (by simp[e])
  have hp:([c]:List UInt8).isPrefixOf (x::t)=I:=by simp[Gs,Ne.symm h1]
  rw[Lib.index,hp,q22 h2];rfl
theorem q2s {c}:∀ {a b:List UInt8},c ∉ a→Lib.index (a++c::b) [c]=(a.length:Int)
 | [],b,_=>by simp[Lib.index,Gs]
 |x::t,b,h=>by
  have h1:x≠c:=fun e=>h (by simp[e])
  have h2:c ∉ t:=fun e=>h (by simp[e])
  have hp:([c]:List UInt8).isPrefixOf (x::(t++c::b))=I:=by simp[Gs,Ne.symm h1]
  have bI:((t.length:Int) == -1)=I:=by simp
  rw[Gy,Lib.index,hp,q2s h2,bI]
  simp
theorem jl9 (c:UInt8)(s:List UInt8):Lib.split s [c]=wY c s:=by
 refine q8b (c:=c) (P:=fun s=>Lib.split s [c]=wY c s) ?_ ?_ s.length s (Nat.le_refl _)
 ·intro s h
  rw[jtw h,Lib.split,Lib.count_miss (q22 h)];rfl
 ·intro a b h ih
  have hi:=q2s (b:=b) h
  have hd:(a++c::b).drop (a.length+1)=b:=by
   rw[show a++c::b=(a++[c])++b by simp,show a.length+1=(a++[c]).length by simp,List.drop_left]
  have hm:((a.length:Int) == -1)=I:=by simp
  rw[jx3 h,Lib.split,Lib.count_hit (by simp) hi]
  simp only[Gt,hd,Nat.add_comm 1]
  rw[Lib.splitK,hi,hm]
  simp only[Gm,if_false,Int.toNat_natCast,Nat.add_zero,Gt,hd]
  rw[List.take_left',←ih]; · rfl
  ·rfl
def IP (c:UInt8):List UInt8→Nat→Int
 | [],_=>-1
 |b::l,n=>bif b == c then(n:Int)else IP c l (n+1)
theorem q78 (c:UInt8):∀(l:List UInt8) (n:Nat),IP c l n=if Lib.indexByte l c == -1 then -1 else Lib.indexByte l c+n
 | [],n=>rfl
 |b::l,n=>by
  have uZ:=Lib.indexByte_ge l c
  rw[IP,Lib.indexByte,q78 c l (n+1)]
  cases hb:(b == c)with
  |true=>simp
  |false=>
   simp only[cond_false,Gm,if_false]
   by_cases h:Lib.indexByte l c=-1
   ·simp[h]
   ·have h1:(Lib.indexByte l c == -1)=I:=by simpa using h
    have h2:(Lib.indexByte l c+1 == -1)=I:=by simp;omega
    simp only[h1,h2,Gm,if_false]
    omega
theorem jfm (c:UInt8)(l:List UInt8):IP c l 0=Lib.indexByte l c:=by
 rw[q78]
 by_cases h:Lib.indexByte l c=-1
 ·simp[h]
 ·have h1:(Lib.indexByte l c == -1)=I:=by simpa using h
  simp[h1]
def IQ:Nat→Nat→List UInt8→List UInt8
 |0,_,acc=>acc
 |f+1,u,acc=>bif Gn u 10 then UInt8.ofNat (48+u)::acc else IQ f (u / 10) (UInt8.ofNat (48+u % 10)::acc)
theorem q7m:∀ (f u:Nat) (acc:List UInt8),u<10^f→0<f→IQ f u acc=Lib.decDigits u++acc
 |0,_,_,_,h=>by omega
 |f+1,u,acc,hu,_=>by
  rw[IQ,Lib.decDigits]
  by_cases h:u<10
  ·rw[Gx.mpr h];simp[h]
  ·have hb:Gn u 10=I:=by
    cases hh:Gn u 10 with
    |false=>rfl
    |true=>exact absurd (Gx.mp hh) h
   have hf:0<f:=by
    rcases Nat.eq_zero_or_pos f with rfl|h1
    ·simp at hu;omega
    ·exact h1
   rw[hb,dif_neg h]
   simp only[cond_false]
   rw[q7m f (u / 10) _ (by rw[Nat.pow_succ]at hu;omega) hf]
   simp
def Mq:List AVal→Option (List (List UInt8))
 | []=>En []
 | .str s::l=>match Mq l with
  |some r=>En (s::r)
  |none=>Gj
 |_=>Gj
theorem qz5:∀ {l:List AVal} {r:List (List UInt8)},Mq l=En r→l=r.map .str
 | [],r,h=>by cases h;rfl
 | .str s::l,r,h=>by
  simp only[Mq]at h
  split at h
  ·rename_i q hq
   cases h
   rw[qz5 hq];rfl
  ·cases h
 | .bool _::_,_,h | .int ..::_,_,h | .list ..::_,_,h | .ms ..::_,_,h | .ptr ..::_,_,h | .ai _::_,_,h | .b8::_,_,h | .map _::_,_,h | .b4::_,_,h | .fn ..::_,_,h | .cx::_,_,h | .agg _::_,_,h | .aJ _::_,_,h | .undef::_,_,h | .any::_,_,h | .aj ..::_,_,h | .dE ..::_,_,h | .db _::_,_,h=>by cases h
def Uw:List AVal→Option (AVal×Bool)
 | [.str s,.int .u8 (.ofNat c)]=>En (.int .i64 (IP (UInt8.ofNat c) s 0),I)
 |_=>Gj
def Ux:List AVal→Option (AVal×Bool)
 | [.str s,.str [c]]=>bif Gn s.length 4294967281 then En (.list I 1 ((wY c s).map .str),I)else Gj
 |_=>Gj
def t99:List AVal→Option (AVal×Bool)
 | [.list Gi 0 [],.str _]=>En (.str [],I)
 | [.list I 1 l,.str p]=>match Mq l with
  |some (s::ss)=>bif Gq (s::ss).length 100000&&Gq (p.intercalate (s::ss)).length 100000000 then En (.str (p.intercalate (s::ss)),I)else Gj
  |_=>Gj
 |_=>Gj
def IU:List AVal→Option (AVal×Bool)
 | [.int .i64 (.ofNat n)]=>bif Gn n 1000000000000000000 then En (.str (IQ 18 n []),I)else Gj
 |_=>Gj
def Uy:List AVal→Option (AVal×Bool)
 | [.str s,.int .i64 (.ofNat c)]=>bif Gq c 100000&&Gq (s.length*c) 100000 then En (.str (Lib.repeatL s c),I)else Gj
 |_=>Gj
theorem jpu {args v o}(h:Uw args=En (v,o)):IsoCall Tryz.prog 254 args v o:=by
 unfold Uw at h;split at h
 ·rename_i s c
  cases h
  rw[jfm]
  exact q0r (s:=s) (c:=Int.ofNat c)
 ·cases h
theorem jpp {args v o}(h:Ux args=En (v,o)):IsoCall Tryz.prog 44 args v o:=by
 unfold Ux at h;split at h
 ·rename_i s c
  cases hl:Gn s.length 4294967281 with
  |false=>rw[hl]at h;cases h
  |true=>
   rw[hl]at h
   cases h
   have:=jc0 (s:=s) (p:=[c]) (Gx.mp hl) (by simp)
   have e:(Lib.splitB ⟨⟨[c]⟩⟩ 0 (Lib.countB ⟨⟨s⟩⟩ ⟨⟨[c]⟩⟩) ⟨⟨s⟩⟩).map (fun x=>AVal.str x.data.toList)=(wY c s).map .str:=by
    rw[←jl9]
    have e2:(Lib.splitB ⟨⟨[c]⟩⟩ 0 (Lib.countB ⟨⟨s⟩⟩ ⟨⟨[c]⟩⟩) ⟨⟨s⟩⟩).map (·.data.toList)=Lib.split s [c]:=by
     rw[Lib.splitB_data];rfl
    rw[←e2,G7];rfl
   rw[e]at this
   exact this
 ·cases h
theorem jv1 {args v o}(h:t99 args=En (v,o)):IsoCall Tryz.prog 105 args v o:=by
 unfold t99 at h;split at h
 ·cases h;exact q00
 ·rename_i l p
  split at h
  ·rename_i s ss hq
   cases hk:(Gq (s::ss).length 100000&&Gq (p.intercalate (s::ss)).length 100000000)with
   |false=>rw[hk]at h;cases h
   |true=>
    rw[hk]at h
    cases h
    simp only[Gb]at hk
    have h1:=Ge hk.1
    have h2:=Ge hk.2
    rw[qz5 hq]
    exact jg6 (ss:=s::ss) (p:=p) (by simp) (by omega) (by show(p.intercalate (s::ss)).length≤_;omega)
  ·cases h
 ·cases h
theorem q76 {args v o}(h:IU args=En (v,o)):IsoCall Tryz.prog 103 args v o:=by
 unfold IU at h;split at h
 ·rename_i n
  cases hk:Gn n 1000000000000000000 with
  |false=>rw[hk]at h;cases h
  |true=>
   rw[hk]at h
   cases h
   have hn:=Gx.mp hk
   have:=jmb (n:=Int.ofNat n) (by simp<;>omega) (by simp<;>omega)
   have e:Lib.itoa (Int.ofNat n)=IQ 18 n []:=by
    rw[q7m 18 n [] (by omega) (by omega),List.append_nil]
    unfold Lib.itoa
    rw[if_neg (by simp)]
    rfl
   rw[e]at this
   exact this
 ·cases h
theorem jpb {args v o}(h:Uy args=En (v,o)):IsoCall Tryz.prog 196 args v o:=by
 unfold Uy at h;split at h
 ·rename_i s c
  cases hk:(Gq c 100000&&Gq (s.length*c) 100000)with
  |false=>rw[hk]at h;cases h
  |true=>
   rw[hk]at h
   cases h
   simp only[Gb]at hk
   have h1:=Ge hk.1
   have h2:=Ge hk.2
   exact jan (s:=s) (c:=c) (by omega) (by omega)
 ·cases h
theorem je4 {k f}(h:Is k f):Abs.Enters Tryz.prog k:=by
 obtain⟨fn,hh,h1,h2⟩:=h
 obtain⟨c,g1,g2,g3,g4,g5⟩:=RD h2
 exact⟨fn,h1,g5,by rw[g1];rfl⟩
theorem uO {k}(h:(tree.find k).isSome=Gi):Abs.Enters Tryz.prog k:=by
 obtain⟨f,hf⟩:=Option.isSome_iff_exists.1 h
 exact je4 (dI.gp all hf)
def Uz:xQ:=fun k=>bif Gd k 254 then En Uw else bif Gd k 44 then En Ux else bif Gd k 105 then En t99 else bif Gd k 103 then En IU else bif Gd k 196 then En Uy else Gj
def UA (args:List AVal)(h:qi):Option (AVal×Bool×qi):=bif qy 0 args then(match IU args with
 |some (v,_)=>En (v,I,h)
 |none=>Gj)else Gj
def q8k:je2:=fun k=>bif Gd k 103 then En UA else Gj
def isL (k:Nat):Bool:=Gd k 254||Gd k 44||Gd k 105||Gd k 103||Gd k 196
def bK:jz:={ bO:=fun k=>bif isL k then Gj else pr.bO k,cN:=Uz,dS:=q8k,maps:=UB }
theorem jp6 {args h v o h'}(hq:UA args h=En (v,o,h')):AQ Tryz.prog 103 args h v o h':=by
 unfold UA at hq
 cases hb:qy 0 args with
 |false=>rw[hb]at hq;cases hq
 |true=>
  rw[hb]at hq
  simp only[cond_true]at hq
  split at hq
  ·rename_i v' o' ht
   cases hq
   have hv:mc v=Gi:=by
    unfold IU at ht;split at ht
    ·rename_i n
     cases hk:Gn n 1000000000000000000 with
     |false=>rw[hk]at ht;cases ht
     |true=>rw[hk]at ht;cases ht;rfl
    ·cases ht
   exact(q76 ht).shr hb hv h
  ·cases hq
theorem Qo:∀ (t:List (Nat×List Row)),(t.all fun p=>(tree.find p.1).isSome)=Gi→∀k l,xP t k=En l→(tree.find k).isSome=Gi
 |(j,m)::t,h,k,l,hk=>by
  simp only[List.all_cons,Gb]at h
  simp only[xP,Gh]at hk
  split at hk
  ·next hb=>rw[←Ga hb];exact h.1
  ·exact Qo t h.2 k l hk
theorem BV:bZ Tryz.prog pr:=okM ok0
theorem bN:bZ Tryz.prog bK where
 fn:=by
  intro k f hf
  simp only[bK,Gh]at hf
  split at hf
  ·cases hf
  ·exact BV.fn k f hf
 iL:=by
  intro k f hf
  simp only[bK,Uz,Gh]at hf
  split at hf
  ·next hb=>cases hf;obtain rfl:=Ga hb;exact⟨uO (k:=254) (by kernel_rfl),fun args v o h _ _=>jpu h⟩
  split at hf
  ·next hb=>cases hf;obtain rfl:=Ga hb;exact⟨uO (k:=44) (by kernel_rfl),fun args v o h _ _=>jpp h⟩
  split at hf
  ·next hb=>cases hf;obtain rfl:=Ga hb;exact⟨uO (k:=105) (by kernel_rfl),fun args v o h _ _=>jv1 h⟩
  split at hf
  ·next hb=>cases hf;obtain rfl:=Ga hb;exact⟨uO (k:=103) (by kernel_rfl),fun args v o h _ _=>q76 h⟩
  split at hf
  ·next hb=>cases hf;obtain rfl:=Ga hb;exact⟨uO (k:=196) (by kernel_rfl),fun args v o h _ _=>jpb h⟩
  ·cases hf
 mixed:=BV.mixed
 fW:=by
  intro k f hf
  simp only[bK,q8k,Gh]at hf
  split at hf
  ·next hb=>cases hf;obtain rfl:=Ga hb;exact⟨uO (k:=103) (by kernel_rfl),fun args h v o h' hq=>jp6 hq⟩
  ·cases hf
 maps:=BV.maps
end Go.Z
namespace Go.Z
open Go Go.Abs Go.Proofs
def ED:AVal→AVal→Bool
 | .fn (.func a) [] [],.fn (.func b) [] []=>Gd a b
 | .cx,.cx=>Gi
 | .aj a b c,.aj a' b' c'=>Gd a a'&&(Gd b b'&&Gd c c')
 | .ptr a b,.ptr a' b'=>Gd a a'&&Gd b b'
 |a,b=>jG a b
theorem Mr {a b}(h:ED a b=Gi):a=b:=by
 unfold ED at h
 split at h
 ·rw[Ga h]
 ·rfl
 ·simp only[Gb]at h
  rw[Ga h.1,Ga h.2.1,Ga h.2.2]
 ·simp only[Gb]at h
  rw[Ga h.1,Ga h.2]
 ·exact qzu h
def IV:List AVal→List AVal→Bool
 | [],[]=>Gi
 |a::l,b::m=>ED a b&&IV l m
 |_,_=>I
theorem UC:∀ {l m:List AVal},IV l m=Gi→l=m
 | [],[],_=>rfl
 |a::l,b::m,h=>by
  simp only[IV,Gb]at h
  rw[Mr h.1,UC h.2]
 | [],_::_,h=>by cases h
 |_::_,[],h=>by cases h
def UD:AVal→AVal→Bool
 | .agg l,.agg m=>IV l m
 |a,b=>ED a b
theorem jeo {a b}(h:UD a b=Gi):a=b:=by
 unfold UD at h
 split at h
 ·rw[UC h]
 ·exact Mr h
def Ms:List (AVal×Bool)→List (AVal×Bool)→Bool
 | [],[]=>Gi
 |(a,o)::l,(b,q)::m=>ED a b&&((o == q)&&Ms l m)
 |_,_=>I
theorem qwg:∀ {l m:List (AVal×Bool)},Ms l m=Gi→l=m
 | [],[],_=>rfl
 |(a,o)::l,(b,q)::m,h=>by
  simp only[Ms,Gb,beq_iff_eq]at h
  rw[Mr h.1,h.2.1,qwg h.2.2]
 | [],_::_,h=>by cases h
 |_::_,[],h=>by cases h
def Mt:List (AVal×AVal)→List (AVal×AVal)→Bool
 | [],[]=>Gi
 |(a,o)::l,(b,q)::m=>ED a b&&(UD o q&&Mt l m)
 |_,_=>I
theorem qv2:∀ {l m:List (AVal×AVal)},Mt l m=Gi→l=m
 | [],[],_=>rfl
 |(a,o)::l,(b,q)::m,h=>by
  simp only[Mt,Gb]at h
  rw[Mr h.1,jeo h.2.1,qv2 h.2.2]
 | [],_::_,h=>by cases h
 |_::_,[],h=>by cases h
def UE:bh→bh→Bool
 | .hole,.hole=>Gi
 | .dead,.dead=>Gi
 | .cells l,.cells m=>Ms l m
 | .map l,.map m=>Mt l m
 | .vec a b l,.vec a' b' m=>Gd a a'&&(Gd b b'&&vp l m)
 |_,_=>I
theorem jb5 {a b}(h:UE a b=Gi):a=b:=by
 unfold UE at h
 split at h
 ·rfl
 ·rfl
 ·rw[qwg h]
 ·rw[qv2 h]
 ·simp only[Gb]at h
  rw[Ga h.1,Ga h.2.1,DY h.2.2]
 ·cases h
def Mu:qi→qi→Bool
 | [],[]=>Gi
 |a::l,b::m=>UE a b&&Mu l m
 |_,_=>I
theorem qw4:∀ {l m:qi},Mu l m=Gi→l=m
 | [],[],_=>rfl
 |a::l,b::m,h=>by
  simp only[Mu,Gb]at h
  rw[jb5 h.1,qw4 h.2]
 | [],_::_,h=>by cases h
 |_::_,[],h=>by cases h
abbrev kf:=List AVal×qi×AVal×Bool×qi
def Ki (args:List AVal)(h:qi):List kf→Option (AVal×Bool×qi)
 | []=>Gj
 |r::l=>bif IV args r.1&&Mu h r.2.1 then En r.2.2 else Ki args h l
theorem qzy {args h x}:∀ {l:List kf},Ki args h l=En x→(args,h,x)∈l
 | [],h=>by cases h
 |r::l,hx=>by
  simp only[Ki,Gh]at hx
  split at hx
  ·next hb=>
   simp only[Gb]at hb
   cases hx
   rw[UC hb.1,qw4 hb.2]
   exact List.mem_cons_self ..
  ·exact List.mem_cons_of_mem _ (qzy hx)
def Ql (P:Program)(k:Nat):List kf→Prop
 | []=>True
 |r::l=>AQ P k r.1 r.2.1 r.2.2.1 r.2.2.2.1 r.2.2.2.2∧Ql P k l
theorem q4s {P k}:∀ {l:List kf},Ql P k l→∀r∈l,AQ P k r.1 r.2.1 r.2.2.1 r.2.2.2.1 r.2.2.2.2
 |r::l,h,x,hx=>by
  cases hx with
  |head=>exact h.1
  |tail _ hx=>exact q4s h.2 x hx
theorem jx {P p}(hp:bZ P p){n k args h h' v o}(hr:qo p (iM p n) k args h=En (v,o,h')):AQ P k args h v o h':=
 (F3 hp (cJ.GF (K8 hp n).1) (by rw[←Ld];exact hr)).2
end Go.Z
namespace Go.Z
open Go Go.Abs Go.Proofs
abbrev xL:=iM bK 1000
def fQ:AVal:=.list Gi 0 []
def en:bh:=.cells [(fQ,I),(fQ,I),(.aj 2 0 1,I)]
def cm:AVal:=.int .i64 0
def zS:AVal:=.agg [cm,fQ,fQ,fQ]
def ib:AVal:=.int .i64 1
def BW:AVal:=.str [99,111,110,101,95,49]
def EE:AVal:=.str [99,111,110,101]
def wZ:AVal:=.int .i64 10
def vO:AVal:=.bool I
def xv9:AVal:=.agg [BW,EE,wZ,wZ,vO]
def UF:AVal:=.agg [ib,.list I 5 [xv9],fQ,fQ]
def lv1:List AVal:=[zS,UF]
def Mv:AVal:=.str [108,111,116]
def lv2:List AVal:=[BW,EE]
def BX:AVal:=.agg [ib,Mv,.list I 1 lv2,.list I 1 [ib,wZ],.str []]
def bv2:bh:=.vec 5 0 [BX]
def bv3:bh:=.cells [(.aj 7 1 2,I),(.aj 5 1 2,I),(.aj 2 2 3,I)]
def xe:AVal:=.str [99,111,105,108,95,49]
def EF:AVal:=.str [99,111,105,108]
def BZ:AVal:=.int .i64 5
def jvi:AVal:=.agg [xe,EF,BZ,BZ,vO]
def B0:AVal:=.list I 5 [xv9,jvi]
def UG:AVal:=.agg [ib,B0,fQ,fQ]
def lv3:List AVal:=lv1++[UG]
def bv4:bh:=.vec 4 2 lv3
def vP:AVal:=.int .i64 2
def lv4:List AVal:=[xe,EF]
def EG:AVal:=.agg [vP,Mv,.list I 1 lv4,.list I 1 [ib,BZ],.str []]
def lv5:List AVal:=[BX,EG]
def Mw:bh:=.vec 5 1 lv5
def bv6:bh:=.cells [(.aj 7 2 3,I),(.aj 5 2 3,I),(.aj 2 3 4,I)]
def mM:AVal:=.str [98,111,120]
def UH:AVal:=.agg [ib,B0,.list I 4 [.agg [mM,fQ,fQ,fQ]],fQ]
def lv6:List AVal:=lv3++[UH]
def bv7:bh:=.vec 4 3 lv6
def pX:AVal:=.int .i64 3
def jvn:AVal:=.str [112,114,111,100,117,99,116]
def UI:AVal:=.list I 1 [mM]
def EH:AVal:=.agg [pX,jvn,UI,.list I 1 [ib],.str []]
def lv7:List AVal:=lv5++[EH]
def Mx:bh:=.vec 5 2 lv7
def bv9:bh:=.cells [(.aj 7 3 4,I),(.aj 5 3 4,I),(.aj 2 4 5,I)]
def jvd:AVal:=.agg [EE,vP]
def UJ:AVal:=.agg [ib,B0,.list I 4 [.agg [mM,.list I 2 [jvd],fQ,fQ]],fQ]
def lv8:List AVal:=lv6++[UJ]
def jxe:bh:=.vec 4 4 lv8
def My:AVal:=.int .i64 4
def Mz:AVal:=.str [110,101,101,100]
def EI:AVal:=.agg [My,Mz,.list I 1 [mM,EE],.list I 1 [ib,vP],.str []]
def lv9:List AVal:=lv7++[EI]
def MA:bh:=.vec 5 3 lv9
def jtl:bh:=.cells [(.aj 7 4 5,I),(.aj 5 4 5,I),(.aj 2 5 6,I)]
def UK:AVal:=.list I 2 [jvd,.agg [EF,ib]]
def UL:AVal:=.agg [ib,B0,.list I 4 [.agg [mM,UK,fQ,fQ]],fQ]
def jwt:List AVal:=lv8++[UL]
def jwi:bh:=.vec 4 5 jwt
def EJ:AVal:=.agg [BZ,Mz,.list I 1 [mM,EF],.list I 1 [ib,ib],.str []]
def ju8:List AVal:=lv9++[EJ]
def MB:bh:=.vec 5 4 ju8
def juw:bh:=.cells [(.aj 7 5 6,I),(.aj 5 5 6,I),(.aj 2 6 7,I)]
def zki:List AVal:=[mM,UK]
def B1:AVal:=.str [115,119,101,101,112]
def jvx:AVal:=.int .i64 80
def jvw:AVal:=.int .i64 90
def jtn:AVal:=.list I 3 [.agg [B1,jvx,jvw]]
def UM:List AVal:=zki++[jtn]
def UN:AVal:=.agg [ib,B0,.list I 4 [.agg ((UM++[fQ]))],fQ]
def ju4:List AVal:=jwt++[UN]
def jti:bh:=.vec 4 6 ju4
def UO:AVal:=.int .i64 6
def jtr:AVal:=.str [116,101,115,116]
def EK:AVal:=.agg [UO,jtr,.list I 1 [mM,B1],.list I 1 [ib,jvx,jvw],.str []]
def jx1:List AVal:=ju8++[EK]
def MC:bh:=.vec 5 5 jx1
def jw8:bh:=.cells [(.aj 7 6 7,I),(.aj 5 6 7,I),(.aj 2 7 8,I)]
def UQ:AVal:=.agg [UK,jtn]
def IW:AVal:=.list I 4 [.agg ((UM++[.list I 2 [UQ]]))]
def UR:AVal:=.agg [vP,B0,IW,fQ]
def jth:List AVal:=ju4++[UR]
def jsw:bh:=.vec 4 7 jth
def US:AVal:=.int .i64 7
def UT:AVal:=.str [105,115,115,117,101]
def EL:AVal:=.agg [US,UT,UI,.list I 1 [vP],.str []]
def juh:List AVal:=jx1++[EL]
def MD:bh:=.vec 5 6 juh
def jtk:bh:=.cells [(.aj 7 7 8,I),(.aj 5 7 8,I),(.aj 2 8 9,I)]
def pY:AVal:=.str [117,49]
def UU:AVal:=.agg [pX,B0,IW,.list I 8 [.agg [pY,mM,ib,fQ,fQ,.str [],vO,cm]]]
def jtt:List AVal:=jth++[UU]
def jxj:bh:=.vec 4 8 jtt
def ME:AVal:=.int .i64 8
def jwz:AVal:=.str [98,117,105,108,100]
def B2:List AVal:=[pY,mM]
def si:AVal:=.list I 1 [pX]
def EM:AVal:=.agg [ME,jwz,.list I 1 B2,si,.str []]
def ju0:List AVal:=juh++[EM]
def MF:bh:=.vec 5 7 ju0
def jx9:bh:=.cells [(.aj 7 8 9,I),(.aj 5 8 9,I),(.aj 2 9 10,I)]
def UW:AVal:=.agg ((lv2++[wZ,ME,vO]))
def jty:AVal:=.agg [BW,vP]
def MG:AVal:=.agg [pX,.list I 5 [UW,jvi],IW,.list I 8 [.agg ((B2++[ib,.list I 2 [jty],fQ,.str [],vO,cm]))]]
def js1:List AVal:=jtt++[MG]
def jvp:bh:=.vec 4 9 js1
def UX:AVal:=.int .i64 9
def MH:AVal:=.str [117,115,101]
def jvy:AVal:=.list I 1 [pY,BW]
def EN:AVal:=.agg [UX,MH,jvy,.list I 1 [pX,vP],.str []]
def jr4:List AVal:=ju0++[EN]
def MI:bh:=.vec 5 8 jr4
def UY:bh:=.cells [(.aj 7 9 10,I),(.aj 5 9 10,I),(.aj 2 10 11,I)]
def zhu:List AVal:=lv4++[BZ]
def jta:List AVal:=zhu++[My]
def jx0:List AVal:=[pX,.list I 5 [UW,.agg ((jta++[vO]))]]
def MJ:List AVal:=jx0++[IW]
def IX:AVal:=.list I 2 [jty,.agg [xe,ib]]
def MK:AVal:=.agg ((MJ++[.list I 8 [.agg ((B2++[ib,IX,fQ,.str [],vO,cm]))]]))
def juc:List AVal:=js1++[MK]
def UZ:bh:=.vec 4 10 juc
def jte:AVal:=.list I 1 [pX,ib]
def EO:AVal:=.agg [wZ,MH,.list I 1 [pY,xe],jte,.str []]
def jrc:List AVal:=jr4++[EO]
def EP:bh:=.vec 5 9 jrc
def U0:bh:=.cells [(.aj 7 10 11,I),(.aj 5 10 11,I),(.aj 2 11 12,I)]
def jsl:List AVal:=[B1,ib]
def jvz:AVal:=.int .i64 85
def jwe:AVal:=.agg ((jsl++[jvz]))
def U1:AVal:=.list I 3 [jwe]
def U2:AVal:=.list I 8 [.agg ((B2++[ib,IX,U1,.str [],vO,cm]))]
def EQ:AVal:=.agg ((MJ++[U2]))
def IY:List AVal:=juc++[EQ]
def U3:bh:=.vec 4 11 IY
def IZ:AVal:=.int .i64 11
def U4:AVal:=.str [109,101,97,115,117,114,101]
def jsf:AVal:=.list I 1 [pY,B1]
def ER:AVal:=.agg [IZ,U4,jsf,.list I 1 [pX,jvz],.str []]
def I0:List AVal:=jrc++[ER]
def ES:bh:=.vec 5 10 I0
def U5:bh:=.cells [(.aj 7 11 12,I),(.aj 5 11 12,I),(.aj 2 12 13,I)]
def fV:AVal:=.bool Gi
def U6:AVal:=.agg [pX,.list I 5 [UW,.agg ((jta++[fV]))],IW,U2]
def I1:bh:=.vec 4 12 ((IY++[U6]))
def U7:AVal:=.int .i64 12
def jrn:AVal:=.str [104,111,108,100]
def jri:AVal:=.list I 1 [xe]
def ET:AVal:=.agg [U7,jrn,jri,si,.str []]
def jr3:List AVal:=I0++[ET]
def zT:bh:=.vec 5 11 jr3
def jq4:bh:=.cells [(.aj 7 12 13,I),(.aj 5 11 11,I),(.aj 2 12 12,I)]
def I2:AVal:=.int .i64 13
def B3:AVal:=.str [117,110,100,111]
def I3:AVal:=.list I 1 []
def I5:AVal:=.agg [I2,B3,I3,fQ,.str []]
def jv0:List AVal:=jr3++[I5]
def jut:bh:=.vec 5 12 jv0
def jw0:bh:=.cells [(.aj 7 13 14,I),(.aj 5 12 12,I),(.aj 2 13 13,I)]
def ju6:List AVal:=jx0++[.list I 4 [.agg ((UM++[.list I 2 [UQ,UQ]]))]]
def ML:AVal:=.agg ((ju6++[U2]))
def jt5:List AVal:=IY++[ML]
def jur:bh:=.vec 4 13 jt5
def U8:AVal:=.int .i64 14
def B4:AVal:=.agg [U8,UT,UI,si,.str []]
def jwo:List AVal:=I0++[B4]
def jxb:bh:=.vec 5 12 jwo
def ju1:List AVal:=jv0++[B4]
def jwq:bh:=.vec 5 13 ju1
def jus:bh:=.cells [(.aj 7 14 15,I),(.aj 5 13 13,I),(.aj 2 14 14,I)]
def U9:AVal:=.agg ((ju6++[.list I 8 [.agg ((B2++[vP,IX,U1,.str [],vO,cm]))]]))
def EU:bh:=.vec 4 14 ((jt5++[U9]))
def I6:AVal:=.int .i64 15
def jrd:AVal:=.str [117,112,100,97,116,101]
def vQ:AVal:=.list I 1 [pY]
def B5:AVal:=.agg [I6,jrd,vQ,si,.str []]
def EV:bh:=.vec 5 13 ((jwo++[B5]))
def jv6:List AVal:=ju1++[B5]
def jwc:bh:=.vec 5 14 jv6
def juv:bh:=.cells [(.aj 7 15 16,I),(.aj 5 13 12,I),(.aj 2 14 13,I)]
def I7:AVal:=.int .i64 16
def I8:AVal:=.agg [I7,B3,I3,fQ,.str []]
def jxa:List AVal:=jv6++[I8]
def jxr:bh:=.vec 5 15 jxa
def jxx:bh:=.cells [(.aj 7 16 17,I),(.aj 5 13 11,I),(.aj 2 14 12,I)]
def Va:AVal:=.int .i64 17
def I9:AVal:=.agg [Va,B3,I3,fQ,.str []]
def jwh:List AVal:=jxa++[I9]
def jww:bh:=.vec 5 16 jwh
def jxu:bh:=.cells [(.aj 7 17 18,I),(.aj 5 14 12,I),(.aj 2 15 13,I)]
def jq5:AVal:=.int .i64 91
def Vb:AVal:=.agg ((MJ++[.list I 8 [.agg ((B2++[ib,IX,.list I 3 [jwe,.agg ((jsl++[jq5]))],.str [],vO,cm]))]]))
def Ja:bh:=.vec 4 15 ((IY++[Vb]))
def Vc:AVal:=.int .i64 18
def B6:AVal:=.agg [Vc,U4,jsf,.list I 1 [pX,jq5],.str []]
def Jb:bh:=.vec 5 14 ((I0++[B6]))
def jt1:List AVal:=jwh++[B6]
def jwy:bh:=.vec 5 17 jt1
def Vd:bh:=.cells [(.aj 7 18 19,I),(.aj 5 14 11,I),(.aj 2 15 12,I)]
def EW:AVal:=.int .i64 19
def Jc:AVal:=.agg [EW,B3,I3,fQ,.str []]
def jr9:List AVal:=jt1++[Jc]
def Ve:bh:=.vec 5 18 jr9
def Vf:bh:=.cells [(.aj 7 19 20,I),(.aj 5 15 12,I),(.aj 2 16 13,I)]
def Vg:AVal:=.agg ((MJ++[.list I 8 [.agg ((B2++[ib,IX,U1,.str [],fV,cm]))]]))
def Vh:bh:=.vec 4 16 ((IY++[Vg]))
def MN:AVal:=.int .i64 20
def zU:AVal:=.str [115,104,105,112]
def B7:AVal:=.agg [MN,zU,vQ,si,.str []]
def Vi:bh:=.vec 5 15 ((I0++[B7]))
def jsb:List AVal:=jr9++[B7]
def Vj:bh:=.vec 5 19 jsb
def jsz:List AVal:=[UT,mM]
def jss:List AVal:=[MH,pY]
def zjt:List AVal:=jss++[BW]
def jxg:List AVal:=zjt++[.str [51]]
def B8:AVal:=.list I 1 [zU,pY,.str [51]]
def Vk:AVal:=.agg [wZ,zU,vQ,si,.str []]
def Vl:AVal:=.agg [IZ,zU,vQ,si,.str []]
def jm2:AVal:=.int .i64 31
def Vm:AVal:=.aJ [zS,jm2]
def zdy:List AVal:=[U4,pY]
def zkk:List AVal:=zdy++[B1]
def jyb:List AVal:=zkk++[.str [51]]
def Vn:AVal:=.agg [I2,zU,vQ,si,.str []]
def jm9:AVal:=.int .i64 34
def Jd:AVal:=.list I 1 [B3]
def Vo:AVal:=.agg [I6,zU,vQ,si,.str []]
def jmv:AVal:=.int .i64 32
def Vp:AVal:=.agg [I7,zU,vQ,si,.str []]
def Vq:AVal:=.agg [EW,zU,vQ,si,.str []]
def EX:AVal:=.int .i64 21
def jnf:AVal:=.agg [EX,B3,I3,fQ,.str []]
def Vr:AVal:=.agg [EX,MH,jvy,jte,.str []]
def jmd:AVal:=.str [49,32,108,111,116,32,99,111,110,101,95,49,32,99,111,110,101,32,49,32,49,48]
def jmf:AVal:=.str [50,32,108,111,116,32,99,111,105,108,95,49,32,99,111,105,108,32,49,32,53]
def jng:AVal:=.str [51,32,112,114,111,100,117,99,116,32,98,111,120,32,49]
def jmq:AVal:=.str [52,32,110,101,101,100,32,98,111,120,32,99,111,110,101,32,49,32,50]
def jnb:AVal:=.str [53,32,110,101,101,100,32,98,111,120,32,99,111,105,108,32,49,32,49]
def jm1:AVal:=.str [54,32,116,101,115,116,32,98,111,120,32,115,119,101,101,112,32,49,32,56,48,32,57,48]
def jnc:AVal:=.str [55,32,105,115,115,117,101,32,98,111,120,32,50]
def jmt:AVal:=.str [56,32,98,117,105,108,100,32,117,49,32,98,111,120,32,51]
def jm8:AVal:=.str [57,32,117,115,101,32,117,49,32,99,111,110,101,95,49,32,51,32,50]
def jm5:AVal:=.str [49,48,32,117,115,101,32,117,49,32,99,111,105,108,95,49,32,51,32,49]
def jmo:AVal:=.str [49,49,32,109,101,97,115,117,114,101,32,117,49,32,115,119,101,101,112,32,51,32,56,53]
def jms:AVal:=.str [49,50,32,104,111,108,100,32,99,111,105,108,95,49,32,51]
def jmj:AVal:=.str [49,51,32,117,110,100,111]
def jmx:AVal:=.str [49,52,32,105,115,115,117,101,32,98,111,120,32,51]
def jnd:AVal:=.str [49,53,32,117,112,100,97,116,101,32,117,49,32,51]
def jm3:AVal:=.str [49,54,32,117,110,100,111]
def jmi:AVal:=.str [49,55,32,117,110,100,111]
def jm4:AVal:=.str [49,56,32,109,101,97,115,117,114,101,32,117,49,32,115,119,101,101,112,32,51,32,57,49]
def jne:AVal:=.str [49,57,32,117,110,100,111]
def jmu:AVal:=.str [50,48,32,115,104,105,112,32,117,49,32,51]
def Vs:AVal:=.list I 5 jsb
def B9:List AVal:=[.ptr 0 0,.str [115,104,105,112,32,117,49,32,51]]
def Vt:AVal:=.aJ [.str [],jm2]
def jwg:List AVal:=[.ptr 0 0,.str [109,105,115,115,105,110,103,32,117,49]]
def jmr:AVal:=.aJ [.str [110,111,110,101],cm]
def jwd:List AVal:=[.ptr 0 0,.str [115,116,111,99,107,32,99,111,105,108]]
def Je:List AVal:=[.ptr 0 0,B3]
def jre:List AVal:=[.ptr 0 0,.str [115,104,105,112,112,101,100]]
def Vu:qi:=[en,en,.vec 4 0 [zS]]
def hw2:qi:=[.cells [(.aj 7 0 1,I),(.aj 5 0 1,I),(.aj 2 1 2,I)],en,.vec 4 1 lv1,.map jo,.map ja,bv2,.hole,bv2]
def hw3:qi:=[bv3,en,bv4,.map jo,.map ja,Mw,.hole,Mw,.map jo,.map ja]
def hw4:qi:=[bv3,en,bv4,.map jo,.map ja,Mw,.hole,Mw]
def hw5:qi:=[bv6,en,bv7,.map jo,.map ja,Mx,.hole,Mx,.map jo,.map ja]
def hw6:qi:=[bv6,en,bv7,.map jo,.map ja,Mx,.hole,Mx]
def hw7:qi:=[bv9,en,jxe,.map jo,.map ja,MA,.hole,MA,.map jo,.map ja]
def hw8:qi:=[bv9,en,jxe,.map jo,.map ja,MA,.hole,MA]
def hw9:qi:=[jtl,en,jwi,.map jo,.map ja,MB,.hole,MB,.map jo,.map ja]
def zb8:qi:=[jtl,en,jwi,.map jo,.map ja,MB,.hole,MB]
def zeg:qi:=[juw,en,jti,.map jo,.map ja,MC,.hole,MC,.map jo,.map ja]
def zhj:qi:=[juw,en,jti,.map jo,.map ja,MC,.hole,MC]
def zgk:qi:=[jw8,en,jsw,.map jo,.map ja,MD,.hole,MD,.map jo,.map ja]
def zfk:qi:=[jw8,en,jsw,.map jo,.map ja,MD,.hole,MD]
def zcj:qi:=[jtk,en,jxj,.map jo,.map ja,MF,.hole,MF,.map jo,.map ja]
def zbo:qi:=[jtk,en,jxj,.map jo,.map ja,MF,.hole,MF]
def jx4:qi:=[jx9,en,jvp,.map jo,.map ja,MI,.hole,MI,.map jo,.map ja]
def jsy:qi:=[jx9,en,jvp,.map jo,.map ja,MI,.hole,MI]
def js3:qi:=[UY,en,UZ,.map jo,.map ja,EP,.hole,EP,.map jo,.map ja]
def Vv:qi:=[UY,en,UZ,.map jo,.map ja,EP,.hole,EP]
def zdd:qi:=[UY,en,UZ,.map jo,.map ja,EP,.hole,EP,.map jo]
def zhy:qi:=[U0,en,U3,.map jo,.map ja,ES,.hole,ES,.map jo,.map ja]
def jrq:qi:=[U0,en,U3,.map jo,.map ja,ES,.hole,ES]
def zdl:qi:=[U0,en,U3,.map jo,.map ja,ES,.hole,ES,.map jo]
def jt7:qi:=[U5,en,I1,.map jo,.map ja,zT,.hole,zT,.map jo,.map ja]
def Vw:qi:=[U5,en,I1,.map jo,.map ja,zT,.hole,zT]
def zcs:qi:=[U5,en,I1,.map jo,.map ja,zT,.hole,zT,.map jo]
def zfq:qi:=[jq4,en,I1,.map jo,.map ja,zT,.hole,jut,.map jo,.map ja]
def zc4:qi:=[jq4,en,I1,.map jo,.map ja,zT,.hole,jut]
def jvm:qi:=[jw0,en,jur,.map jo,.map ja,jxb,.hole,jwq,.map jo,.map ja]
def jxc:qi:=[jw0,en,jur,.map jo,.map ja,jxb,.hole,jwq]
def jxo:qi:=[jus,en,EU,.map jo,.map ja,EV,.hole,jwc,.map jo,.map ja]
def jva:qi:=[jus,en,EU,.map jo,.map ja,EV,.hole,jwc]
def zh5:qi:=[juv,en,EU,.map jo,.map ja,EV,.hole,jxr,.map jo,.map ja]
def zdj:qi:=[juv,en,EU,.map jo,.map ja,EV,.hole,jxr]
def zgt:qi:=[jxx,en,EU,.map jo,.map ja,EV,.hole,jww,.map jo,.map ja]
def zfc:qi:=[jxx,en,EU,.map jo,.map ja,EV,.hole,jww]
def jr1:qi:=[jxu,en,Ja,.map jo,.map ja,Jb,.hole,jwy,.map jo,.map ja]
def jwx:qi:=[jxu,en,Ja,.map jo,.map ja,Jb,.hole,jwy]
def zjx:qi:=[Vd,en,Ja,.map jo,.map ja,Jb,.hole,Ve,.map jo,.map ja]
def Jf:qi:=[Vd,en,Ja,.map jo,.map ja,Jb,.hole,Ve]
def MO:qi:=[Vd,en,Ja,.map jo,.map ja,Jb,.hole,Ve,.map jo]
def Vx:qi:=[Vf,en,Vh,.map jo,.map ja,Vi,.hole,Vj,.map jo,.map ja]
def Vy:qi:=[Vf,en,Vh,.map jo,.map ja,Vi,.hole,Vj]
def zb4:qi:=[Vf,en,Vh,.map jo,.map ja,Vi,.hole,Vj,.map jo]
def e1:Row:=([.list I 1 [Mv,BW,EE,.str [49],.str [49,48]],ib],.aJ [BX,fV],I)
def e2:Row:=([BX],cm,I)
def e3:Row:=([zS,BX],.aJ [UF,cm],I)
def e4:Row:=([.list I 1 [Mv,xe,EF,.str [49],.str [53]],vP],.aJ [EG,fV],I)
def e5:Row:=([EG],cm,I)
def e6:Row:=([UF,EG],.aJ [UG,cm],I)
def e7:Row:=([.list I 1 [jvn,mM,.str [49]],pX],.aJ [EH,fV],I)
def e8:Row:=([EH],cm,I)
def e9:Row:=([UG,EH],.aJ [UH,cm],I)
def Vz:Row:=([.list I 1 [Mz,mM,EE,.str [49],.str [50]],My],.aJ [EI,fV],I)
def VA:Row:=([EI],cm,I)
def VB:Row:=([UH,EI],.aJ [UJ,cm],I)
def VC:Row:=([.list I 1 [Mz,mM,EF,.str [49],.str [49]],BZ],.aJ [EJ,fV],I)
def VD:Row:=([EJ],cm,I)
def VE:Row:=([UJ,EJ],.aJ [UL,cm],I)
def VF:Row:=([.list I 1 [jtr,mM,B1,.str [49],.str [56,48],.str [57,48]],UO],.aJ [EK,fV],I)
def VG:Row:=([EK],cm,I)
def VH:Row:=([UL,EK],.aJ [UN,cm],I)
def VI:Row:=([.list I 1 ((jsz++[.str [50]])),US],.aJ [EL,fV],I)
def VJ:Row:=([EL],cm,I)
def VK:Row:=([UN,EL],.aJ [UR,cm],I)
def VL:Row:=([.list I 1 [jwz,pY,mM,.str [51]],ME],.aJ [EM,fV],I)
def VM:Row:=([EM],cm,I)
def VN:Row:=([UR,EM],.aJ [UU,cm],I)
def VO:Row:=([.list I 1 ((jxg++[.str [50]])),UX],.aJ [EN,fV],I)
def VP:Row:=([EN],cm,I)
def VQ:Row:=([UU,EN],.aJ [MG,cm],I)
def VR:Row:=([B8,wZ],.aJ [Vk,fV],I)
def VS:Row:=([Vk],cm,I)
def VT:Row:=([MG,Vk],.aJ [zS,MN],I)
def VU:Row:=([.list I 1 ((jss++[xe,.str [51],.str [49]])),wZ],.aJ [EO,fV],I)
def VW:Row:=([EO],cm,I)
def VX:Row:=([MG,EO],.aJ [MK,cm],I)
def VY:Row:=([B8,IZ],.aJ [Vl,fV],I)
def VZ:Row:=([Vl],cm,I)
def V0:Row:=([MK,Vl],Vm,I)
def V1:Row:=([.list I 1 ((jyb++[.str [56,53]])),IZ],.aJ [ER,fV],I)
def V2:Row:=([ER],cm,I)
def V3:Row:=([MK,ER],.aJ [EQ,cm],I)
def V4:Row:=([.list I 1 [jrn,xe,.str [51]],U7],.aJ [ET,fV],I)
def V5:Row:=([ET],cm,I)
def V6:Row:=([EQ,ET],.aJ [U6,cm],I)
def V7:Row:=([B8,I2],.aJ [Vn,fV],I)
def V8:Row:=([Vn],cm,I)
def V9:Row:=([U6,Vn],.aJ [zS,jm9],I)
def Wa:Row:=([Jd,I2],.aJ [I5,fV],I)
def Wb:Row:=([I5],cm,I)
def Wc:Row:=([.list I 1 ((jsz++[.str [51]])),U8],.aJ [B4,fV],I)
def Wd:Row:=([B4],cm,I)
def Wf:Row:=([EQ,B4],.aJ [ML,cm],I)
def Wg:Row:=([B8,I6],.aJ [Vo,fV],I)
def Wh:Row:=([Vo],cm,I)
def Wi:Row:=([ML,Vo],.aJ [zS,jmv],I)
def Wj:Row:=([.list I 1 [jrd,pY,.str [51]],I6],.aJ [B5,fV],I)
def Wk:Row:=([B5],cm,I)
def Wl:Row:=([ML,B5],.aJ [U9,cm],I)
def Wm:Row:=([B8,I7],.aJ [Vp,fV],I)
def Wn:Row:=([Vp],cm,I)
def Wo:Row:=([U9,Vp],Vm,I)
def Wp:Row:=([Jd,I7],.aJ [I8,fV],I)
def Wq:Row:=([I8],cm,I)
def Wr:Row:=([Jd,Va],.aJ [I9,fV],I)
def Ws:Row:=([I9],cm,I)
def Wt:Row:=([.list I 1 ((jyb++[.str [57,49]])),Vc],.aJ [B6,fV],I)
def Wu:Row:=([B6],cm,I)
def Wv:Row:=([EQ,B6],.aJ [Vb,cm],I)
def Ww:Row:=([B8,EW],.aJ [Vq,fV],I)
def Wx:Row:=([Vq],cm,I)
def Wy:Row:=([Vb,Vq],Vm,I)
def Wz:Row:=([Jd,EW],.aJ [Jc,fV],I)
def WA:Row:=([Jc],cm,I)
def WB:Row:=([B8,MN],.aJ [B7,fV],I)
def WC:Row:=([B7],cm,I)
def WD:Row:=([EQ,B7],.aJ [Vg,cm],I)
def WE:Row:=([Jd,EX],.aJ [jnf,fV],I)
def WG:Row:=([jnf],cm,I)
def WH:Row:=([.list I 1 ((jxg++[.str [49]])),EX],.aJ [Vr,fV],I)
def WI:Row:=([Vr],cm,I)
def WJ:Row:=([Vg,Vr],.aJ [zS,EX],I)
def WK:Row:=([BX],jmd,I)
def WL:Row:=([jmd],.str [51,57,56,57,49,56,50],I)
def WM:Row:=([EG],jmf,I)
def WN:Row:=([jmf],.str [48,49,55,50,54,57,55],I)
def WO:Row:=([EH],jng,I)
def WQ:Row:=([jng],.str [54,49,49,52,48,56,52],I)
def WR:Row:=([EI],jmq,I)
def WS:Row:=([jmq],.str [49,55,56,55,50,51,49],I)
def WT:Row:=([EJ],jnb,I)
def WU:Row:=([jnb],.str [50,52,55,55,51,52,50],I)
def WV:Row:=([EK],jm1,I)
def WW:Row:=([jm1],.str [50,48,50,49,51,55,56],I)
def WX:Row:=([EL],jnc,I)
def WY:Row:=([jnc],.str [57,55,57,50,54,57,53],I)
def WZ:Row:=([EM],jmt,I)
def W0:Row:=([jmt],.str [48,55,51,51,57,54,55],I)
def W1:Row:=([EN],jm8,I)
def W2:Row:=([jm8],.str [57,54,50,56,50,52,50],I)
def W3:Row:=([EO],jm5,I)
def W5:Row:=([jm5],.str [51,51,55,48,50,52,48],I)
def W6:Row:=([ER],jmo,I)
def W7:Row:=([jmo],.str [56,50,52,48,49,52,56],I)
def W8:Row:=([ET],jms,I)
def W9:Row:=([jms],.str [53,50,48,49,49,53,55],I)
def Xa:Row:=([I5],jmj,I)
def Xb:Row:=([jmj],.str [54,55,52,56,55,48,57],I)
def Xc:Row:=([B4],jmx,I)
def Xd:Row:=([jmx],.str [48,56,53,50,57,54,53],I)
def Xe:Row:=([B5],jnd,I)
def Xf:Row:=([jnd],.str [50,52,56,53,48,49,51],I)
def Xg:Row:=([I8],jm3,I)
def Xh:Row:=([jm3],.str [56,51,50,54,51,57,51],I)
def Xi:Row:=([I9],jmi,I)
def Xj:Row:=([jmi],.str [50,49,56,53,54,57,53],I)
def Xk:Row:=([B6],jm4,I)
def Xl:Row:=([jm4],.str [50,51,54,49,51,49,55],I)
def Xm:Row:=([Jc],jne,I)
def Xn:Row:=([jne],.str [57,57,48,52,48,55,55],I)
def Xo:Row:=([B7],jmu,I)
def Xp:Row:=([jmu],.str [53,49,49,54,56,51,51],I)
def Xq:Row:=([.str [49,32,108,111,116,32,99,111,110,101,95,49,32,99,111,110,101,32,49,32,49,48,35,51,57,56,57,49,56,50],cm],.aJ [BX,cm],I)
def Xr:Row:=([.str [50,32,108,111,116,32,99,111,105,108,95,49,32,99,111,105,108,32,49,32,53,35,48,49,55,50,54,57,55],ib],.aJ [EG,cm],I)
def Xt:Row:=([.str [51,32,112,114,111,100,117,99,116,32,98,111,120,32,49,35,54,49,49,52,48,56,52],vP],.aJ [EH,cm],I)
def Xu:Row:=([.str [52,32,110,101,101,100,32,98,111,120,32,99,111,110,101,32,49,32,50,35,49,55,56,55,50,51,49],pX],.aJ [EI,cm],I)
def Xv:Row:=([.str [53,32,110,101,101,100,32,98,111,120,32,99,111,105,108,32,49,32,49,35,50,52,55,55,51,52,50],My],.aJ [EJ,cm],I)
def Xw:Row:=([.str [54,32,116,101,115,116,32,98,111,120,32,115,119,101,101,112,32,49,32,56,48,32,57,48,35,50,48,50,49,51,55,56],BZ],.aJ [EK,cm],I)
def Xx:Row:=([.str [55,32,105,115,115,117,101,32,98,111,120,32,50,35,57,55,57,50,54,57,53],UO],.aJ [EL,cm],I)
def Xy:Row:=([.str [56,32,98,117,105,108,100,32,117,49,32,98,111,120,32,51,35,48,55,51,51,57,54,55],US],.aJ [EM,cm],I)
def Xz:Row:=([.str [57,32,117,115,101,32,117,49,32,99,111,110,101,95,49,32,51,32,50,35,57,54,50,56,50,52,50],ME],.aJ [EN,cm],I)
def XA:Row:=([.str [49,48,32,117,115,101,32,117,49,32,99,111,105,108,95,49,32,51,32,49,35,51,51,55,48,50,52,48],UX],.aJ [EO,cm],I)
def XB:Row:=([.str [49,49,32,109,101,97,115,117,114,101,32,117,49,32,115,119,101,101,112,32,51,32,56,53,35,56,50,52,48,49,52,56],wZ],.aJ [ER,cm],I)
def XD:Row:=([.str [49,50,32,104,111,108,100,32,99,111,105,108,95,49,32,51,35,53,50,48,49,49,53,55],IZ],.aJ [ET,cm],I)
def XE:Row:=([.str [49,51,32,117,110,100,111,35,54,55,52,56,55,48,57],U7],.aJ [I5,cm],I)
def XF:Row:=([.str [49,52,32,105,115,115,117,101,32,98,111,120,32,51,35,48,56,53,50,57,54,53],I2],.aJ [B4,cm],I)
def XG:Row:=([.str [49,53,32,117,112,100,97,116,101,32,117,49,32,51,35,50,52,56,53,48,49,51],U8],.aJ [B5,cm],I)
def XH:Row:=([.str [49,54,32,117,110,100,111,35,56,51,50,54,51,57,51],I6],.aJ [I8,cm],I)
def XI:Row:=([.str [49,55,32,117,110,100,111,35,50,49,56,53,54,57,53],I7],.aJ [I9,cm],I)
def XJ:Row:=([.str [49,56,32,109,101,97,115,117,114,101,32,117,49,32,115,119,101,101,112,32,51,32,57,49,35,50,51,54,49,51,49,55],Va],.aJ [B6,cm],I)
def XK:Row:=([.str [49,57,32,117,110,100,111,35,57,57,48,52,48,55,55],Vc],.aJ [Jc,cm],I)
def XL:Row:=([.str [50,48,32,115,104,105,112,32,117,49,32,51,35,53,49,49,54,56,51,51],EW],.aJ [B7,cm],I)
def Qi:Row:=([Vs,jri],.aJ [vQ,cm],I)
def Qj:Row:=([Vs,vQ],.aJ [.list I 1 [BW,xe],cm],I)
def Qk:Row:=([.str [49,32,108,111,116,32,99,111,110,101,95,49,32,99,111,110,101,32,49,32,49,48,35,51,57,56,57,49,56,50,10,50,32,108,111,116,32,99,111,105,108,95,49,32,99,111,105,108,32,49,32,53,35,48,49,55,50,54,57,55,10,51,32,112,114,111,100,117,99,116,32,98,111,120,32,49,35,54,49,49,52,48,56,52,10,52,32,110,101,101,100,32,98,111,120,32,99,111,110,101,32,49,32,50,35,49,55,56,55,50,51,49,10,53,32,110,101,101,100,32,98,111,120,32,99,111,105,108,32,49,32,49,35,50,52,55,55,51,52,50,10,54,32,116,101,115,116,32,98,111,120,32,115,119,101,101,112,32,49,32,56,48,32,57,48,35,50,48,50,49,51,55,56,10,55,32,105,115,115,117,101,32,98,111,120,32,50,35,57,55,57,50,54,57,53,10,56,32,98,117,105,108,100,32,117,49,32,98,111,120,32,51,35,48,55,51,51,57,54,55,10,57,32,117,115,101,32,117,49,32,99,111,110,101,95,49,32,51,32,50,35,57,54,50,56,50,52,50,10,49,48,32,117,115,101,32,117,49,32,99,111,105,108,95,49,32,51,32,49,35,51,51,55,48,50,52,48,10,49,49,32,109,101,97,115,117,114,101,32,117,49,32,115,119,101,101,112,32,51,32,56,53,35,56,50,52,48,49,52,56,10,49,50,32,104,111,108,100,32,99,111,105,108,95,49,32,51,35,53,50,48,49,49,53,55,10,49,51,32,117,110,100,111,35,54,55,52,56,55,48,57,10,49,52,32,105,115,115,117,101,32,98,111,120,32,51,35,48,56,53,50,57,54,53,10,49,53,32,117,112,100,97,116,101,32,117,49,32,51,35,50,52,56,53,48,49,51,10,49,54,32,117,110,100,111,35,56,51,50,54,51,57,51,10,49,55,32,117,110,100,111,35,50,49,56,53,54,57,53,10,49,56,32,109,101,97,115,117,114,101,32,117,49,32,115,119,101,101,112,32,51,32,57,49,35,50,51,54,49,51,49,55,10,49,57,32,117,110,100,111,35,57,57,48,52,48,55,55,10,50,48,32,115,104,105,112,32,117,49,32,51,35,53,49,49,54,56,51,51,10,49]],.aJ [Vs,.int .i64 500,.int .i64 29],I)
def r1:kf:=([.ptr 0 0,.str [108,111,116,32,99,111,110,101,95,49,32,99,111,110,101,32,49,32,49,48]],Vu,.aJ [.str [100,111,110,101,32,49],cm],I,hw2)
def r2:kf:=([.ptr 0 0,.str [108,111,116,32,99,111,105,108,95,49,32,99,111,105,108,32,49,32,53]],hw2,.aJ [.str [100,111,110,101,32,50],cm],I,hw3)
def r3:kf:=([.ptr 0 0,.str [112,114,111,100,117,99,116,32,98,111,120,32,49]],hw4,.aJ [.str [100,111,110,101,32,51],cm],I,hw5)
def r4:kf:=([.ptr 0 0,.str [110,101,101,100,32,98,111,120,32,99,111,110,101,32,49,32,50]],hw6,.aJ [.str [100,111,110,101,32,52],cm],I,hw7)
def r5:kf:=([.ptr 0 0,.str [110,101,101,100,32,98,111,120,32,99,111,105,108,32,49,32,49]],hw8,.aJ [.str [100,111,110,101,32,53],cm],I,hw9)
def r6:kf:=([.ptr 0 0,.str [116,101,115,116,32,98,111,120,32,115,119,101,101,112,32,49,32,56,48,32,57,48]],zb8,.aJ [.str [100,111,110,101,32,54],cm],I,zeg)
def r7:kf:=([.ptr 0 0,.str [105,115,115,117,101,32,98,111,120,32,50]],zhj,.aJ [.str [100,111,110,101,32,55],cm],I,zgk)
def r8:kf:=([.ptr 0 0,.str [98,117,105,108,100,32,117,49,32,98,111,120,32,51]],zfk,.aJ [.str [100,111,110,101,32,56],cm],I,zcj)
def r9:kf:=([.ptr 0 0,.str [117,115,101,32,117,49,32,99,111,110,101,95,49,32,51,32,50]],zbo,.aJ [.str [100,111,110,101,32,57],cm],I,jx4)
def JS:kf:=(B9,jsy,.aJ [.str [],MN],I,jx4)
def JW:kf:=([.ptr 0 0,.str [117,115,101,32,117,49,32,99,111,105,108,95,49,32,51,32,49]],jsy,.aJ [.str [100,111,110,101,32,49,48],cm],I,js3)
def J0:kf:=(B9,Vv,Vt,I,js3)
def J4:kf:=(jwg,Vv,.aJ [B1,cm],I,zdd)
def J7:kf:=([.ptr 0 0,.str [109,101,97,115,117,114,101,32,117,49,32,115,119,101,101,112,32,51,32,56,53]],Vv,.aJ [.str [100,111,110,101,32,49,49],cm],I,zhy)
def Ka:kf:=(jwg,jrq,jmr,I,zdl)
def Ke:kf:=([.ptr 0 0,.str [104,111,108,100,32,99,111,105,108,95,49,32,51]],jrq,.aJ [.str [100,111,110,101,32,49,50],cm],I,jt7)
def JP:kf:=(B9,Vw,.aJ [.str [],jm9],I,jt7)
def JT:kf:=(jwd,Vw,.aJ [.str [48],cm],I,zcs)
def JX:kf:=(Je,Vw,.aJ [.str [100,111,110,101,32,49,51],cm],I,zfq)
def J1:kf:=([.ptr 0 0,.str [105,115,115,117,101,32,98,111,120,32,51]],zc4,.aJ [.str [100,111,110,101,32,49,52],cm],I,jvm)
def J5:kf:=(B9,jxc,.aJ [.str [],jmv],I,jvm)
def J8:kf:=([.ptr 0 0,.str [117,112,100,97,116,101,32,117,49,32,51]],jxc,.aJ [.str [100,111,110,101,32,49,53],cm],I,jxo)
def Kb:kf:=(B9,jva,Vt,I,jxo)
def Kf:kf:=(Je,jva,.aJ [.str [100,111,110,101,32,49,54],cm],I,zh5)
def JQ:kf:=(Je,zdj,.aJ [.str [100,111,110,101,32,49,55],cm],I,zgt)
def JU:kf:=([.ptr 0 0,.str [109,101,97,115,117,114,101,32,117,49,32,115,119,101,101,112,32,51,32,57,49]],zfc,.aJ [.str [100,111,110,101,32,49,56],cm],I,jr1)
def JY:kf:=(B9,jwx,Vt,I,jr1)
def J2:kf:=(Je,jwx,.aJ [.str [100,111,110,101,32,49,57],cm],I,zjx)
def J6:kf:=([.ptr 0 0,.str [108,111,116,115,32,117,49]],Jf,.aJ [.str [99,111,110,101,95,49,32,99,111,105,108,95,49],cm],I,MO)
def J9:kf:=([.ptr 0 0,.str [115,116,111,99,107,32,99,111,110,101]],Jf,.aJ [.str [56],cm],I,MO)
def Kc:kf:=(jwd,Jf,.aJ [.str [52],cm],I,MO)
def Kg:kf:=(jre,Jf,jmr,I,MO)
def JR:kf:=(B9,Jf,.aJ [.str [100,111,110,101,32,50,48],cm],I,Vx)
def JV:kf:=(Je,Vy,.aJ [.str [],EW],I,Vx)
def JZ:kf:=([.ptr 0 0,.str [117,115,101,32,117,49,32,99,111,110,101,95,49,32,51,32,49]],Vy,.aJ [.str [],EX],I,Vx)
def J3:kf:=(jre,Vy,.aJ [pY,cm],I,zb4)
theorem w21:qc bK xL 113 VK.1=En VK.2:=by kernel_rfl
theorem w25:qc bK xL 102 VO.1=En VO.2:=by kernel_rfl
theorem w26:qc bK xL 47 VP.1=En VP.2:=by kernel_rfl
theorem w37:qc bK xL 102 V1.1=En V1.2:=by kernel_rfl
theorem w48:qc bK xL 102 Wc.1=En Wc.2:=by kernel_rfl
theorem w51:qc bK xL 102 Wg.1=En Wg.2:=by kernel_rfl
theorem w56:qc bK xL 113 Wl.1=En Wl.2:=by kernel_rfl
theorem w74:qc bK xL 113 WD.1=En WD.2:=by kernel_rfl
theorem w82:qc bK xL 137 WM.1=En WM.2:=by kernel_rfl
theorem w90:qc bK xL 137 WV.1=En WV.2:=by kernel_rfl
theorem w93:qc bK xL 138 WY.1=En WY.2:=by kernel_rfl
theorem zfz:qc bK xL 138 Xh.1=En Xh.2:=by kernel_rfl
theorem zec:qc bK xL 138 Xl.1=En Xl.2:=by kernel_rfl
theorem zdb:qc bK xL 137 Xm.1=En Xm.2:=by kernel_rfl
theorem zhp:qc bK xL 137 Xo.1=En Xo.2:=by kernel_rfl
theorem zdf:qc bK xL 85 Xr.1=En Xr.2:=by kernel_rfl
theorem zj5:qc bK xL 85 XA.1=En XA.2:=by kernel_rfl
theorem zi8:qc bK xL 85 XH.1=En XH.2:=by kernel_rfl
theorem w4:qc bK xL 102 e4.1=En e4.2:=by kernel_rfl
theorem w11:qc bK xL 47 VA.1=En VA.2:=by kernel_rfl
theorem w18:qc bK xL 113 VH.1=En VH.2:=by kernel_rfl
theorem w19:qc bK xL 102 VI.1=En VI.2:=by kernel_rfl
theorem w29:qc bK xL 47 VS.1=En VS.2:=by kernel_rfl
theorem w38:qc bK xL 47 V2.1=En V2.2:=by kernel_rfl
theorem w45:qc bK xL 113 V9.1=En V9.2:=by kernel_rfl
theorem w46:qc bK xL 102 Wa.1=En Wa.2:=by kernel_rfl
theorem w53:qc bK xL 113 Wi.1=En Wi.2:=by kernel_rfl
theorem w57:qc bK xL 102 Wm.1=En Wm.2:=by kernel_rfl
theorem w61:qc bK xL 47 Wq.1=En Wq.2:=by kernel_rfl
theorem w64:qc bK xL 102 Wt.1=En Wt.2:=by kernel_rfl
theorem w91:qc bK xL 138 WW.1=En WW.2:=by kernel_rfl
theorem w96:qc bK xL 137 W1.1=En W1.2:=by kernel_rfl
theorem ziv:qc bK xL 138 Xj.1=En Xj.2:=by kernel_rfl
theorem zfp:qc bK xL 85 Xu.1=En Xu.2:=by kernel_rfl
theorem zde:qc bK xL 85 XD.1=En XD.2:=by kernel_rfl
theorem zkg:qc bK xL 85 XI.1=En XI.2:=by kernel_rfl
theorem w14:qc bK xL 47 VD.1=En VD.2:=by kernel_rfl
theorem w15:qc bK xL 113 VE.1=En VE.2:=by kernel_rfl
theorem w16:qc bK xL 102 VF.1=En VF.2:=by kernel_rfl
theorem w35:qc bK xL 47 VZ.1=En VZ.2:=by kernel_rfl
theorem w39:qc bK xL 113 V3.1=En V3.2:=by kernel_rfl
theorem w49:qc bK xL 47 Wd.1=En Wd.2:=by kernel_rfl
theorem w54:qc bK xL 102 Wj.1=En Wj.2:=by kernel_rfl
theorem w59:qc bK xL 113 Wo.1=En Wo.2:=by kernel_rfl
theorem w60:qc bK xL 102 Wp.1=En Wp.2:=by kernel_rfl
theorem w63:qc bK xL 47 Ws.1=En Ws.2:=by kernel_rfl
theorem w65:qc bK xL 47 Wu.1=En Wu.2:=by kernel_rfl
theorem w67:qc bK xL 102 Ww.1=En Ww.2:=by kernel_rfl
theorem zi0:qc bK xL 138 Xn.1=En Xn.2:=by kernel_rfl
theorem zfw:qc bK xL 85 Xq.1=En Xq.2:=by kernel_rfl
theorem zkq:qc bK xL 85 Xv.1=En Xv.2:=by kernel_rfl
theorem zgi:qc bK xL 85 Xx.1=En Xx.2:=by kernel_rfl
theorem zja:qc bK xL 85 Xy.1=En Xy.2:=by kernel_rfl
theorem zee:qc bK xL 85 XK.1=En XK.2:=by kernel_rfl
theorem w7:qc bK xL 102 e7.1=En e7.2:=by kernel_rfl
theorem w8:qc bK xL 47 e8.1=En e8.2:=by kernel_rfl
theorem w10:qc bK xL 102 Vz.1=En Vz.2:=by kernel_rfl
theorem w12:qc bK xL 113 VB.1=En VB.2:=by kernel_rfl
theorem w36:qc bK xL 113 V0.1=En V0.2:=by kernel_rfl
theorem w44:qc bK xL 47 V8.1=En V8.2:=by kernel_rfl
theorem w62:qc bK xL 102 Wr.1=En Wr.2:=by kernel_rfl
theorem w69:qc bK xL 113 Wy.1=En Wy.2:=by kernel_rfl
theorem w71:qc bK xL 47 WA.1=En WA.2:=by kernel_rfl
theorem w72:qc bK xL 102 WB.1=En WB.2:=by kernel_rfl
theorem w83:qc bK xL 138 WN.1=En WN.2:=by kernel_rfl
theorem w86:qc bK xL 137 WR.1=En WR.2:=by kernel_rfl
theorem w95:qc bK xL 138 W0.1=En W0.2:=by kernel_rfl
theorem zge:qc bK xL 137 W6.1=En W6.2:=by kernel_rfl
theorem zjh:qc bK xL 137 Xc.1=En Xc.2:=by kernel_rfl
theorem zd3:qc bK xL 85 Xt.1=En Xt.2:=by kernel_rfl
theorem zg8:qc bK xL 85 XB.1=En XB.2:=by kernel_rfl
theorem w9:qc bK xL 113 e9.1=En e9.2:=by kernel_rfl
theorem w13:qc bK xL 102 VC.1=En VC.2:=by kernel_rfl
theorem w20:qc bK xL 47 VJ.1=En VJ.2:=by kernel_rfl
theorem w22:qc bK xL 102 VL.1=En VL.2:=by kernel_rfl
theorem w33:qc bK xL 113 VX.1=En VX.2:=by kernel_rfl
theorem w40:qc bK xL 102 V4.1=En V4.2:=by kernel_rfl
theorem w41:qc bK xL 47 V5.1=En V5.2:=by kernel_rfl
theorem w52:qc bK xL 47 Wh.1=En Wh.2:=by kernel_rfl
theorem w66:qc bK xL 113 Wv.1=En Wv.2:=by kernel_rfl
theorem w70:qc bK xL 102 Wz.1=En Wz.2:=by kernel_rfl
theorem w76:qc bK xL 47 WG.1=En WG.2:=by kernel_rfl
theorem w87:qc bK xL 138 WS.1=En WS.2:=by kernel_rfl
theorem w88:qc bK xL 137 WT.1=En WT.2:=by kernel_rfl
theorem w99:qc bK xL 138 W5.1=En W5.2:=by kernel_rfl
theorem zgn:qc bK xL 138 W9.1=En W9.2:=by kernel_rfl
theorem zce:qc bK xL 137 Xk.1=En Xk.2:=by kernel_rfl
theorem zds:qc bK xL 85 XJ.1=En XJ.2:=by kernel_rfl
theorem w2:qc bK xL 47 e2.1=En e2.2:=by kernel_rfl
theorem w6:qc bK xL 113 e6.1=En e6.2:=by kernel_rfl
theorem w28:qc bK xL 102 VR.1=En VR.2:=by kernel_rfl
theorem w30:qc bK xL 113 VT.1=En VT.2:=by kernel_rfl
theorem w32:qc bK xL 47 VW.1=En VW.2:=by kernel_rfl
theorem w55:qc bK xL 47 Wk.1=En Wk.2:=by kernel_rfl
theorem w58:qc bK xL 47 Wn.1=En Wn.2:=by kernel_rfl
theorem w75:qc bK xL 102 WE.1=En WE.2:=by kernel_rfl
theorem w79:qc bK xL 113 WJ.1=En WJ.2:=by kernel_rfl
theorem w84:qc bK xL 137 WO.1=En WO.2:=by kernel_rfl
theorem w85:qc bK xL 138 WQ.1=En WQ.2:=by kernel_rfl
theorem w89:qc bK xL 138 WU.1=En WU.2:=by kernel_rfl
theorem zcy:qc bK xL 137 Xa.1=En Xa.2:=by kernel_rfl
theorem zcr:qc bK xL 85 Xw.1=En Xw.2:=by kernel_rfl
theorem zc0:qc bK xL 85 Xz.1=En Xz.2:=by kernel_rfl
theorem zix:qc bK xL 85 XF.1=En XF.2:=by kernel_rfl
theorem zf8:qc bK xL 85 XL.1=En XL.2:=by kernel_rfl
theorem w3:qc bK xL 113 e3.1=En e3.2:=by kernel_rfl
theorem w23:qc bK xL 47 VM.1=En VM.2:=by kernel_rfl
theorem w27:qc bK xL 113 VQ.1=En VQ.2:=by kernel_rfl
theorem w31:qc bK xL 102 VU.1=En VU.2:=by kernel_rfl
theorem w34:qc bK xL 102 VY.1=En VY.2:=by kernel_rfl
theorem w42:qc bK xL 113 V6.1=En V6.2:=by kernel_rfl
theorem w68:qc bK xL 47 Wx.1=En Wx.2:=by kernel_rfl
theorem w78:qc bK xL 47 WI.1=En WI.2:=by kernel_rfl
theorem w80:qc bK xL 137 WK.1=En WK.2:=by kernel_rfl
theorem w81:qc bK xL 138 WL.1=En WL.2:=by kernel_rfl
theorem w92:qc bK xL 137 WX.1=En WX.2:=by kernel_rfl
theorem w97:qc bK xL 138 W2.1=En W2.2:=by kernel_rfl
theorem zjk:qc bK xL 137 W8.1=En W8.2:=by kernel_rfl
theorem zdz:qc bK xL 138 Xd.1=En Xd.2:=by kernel_rfl
theorem zb9:qc bK xL 137 Xg.1=En Xg.2:=by kernel_rfl
theorem zfj:qc bK xL 138 Xp.1=En Xp.2:=by kernel_rfl
theorem zc5:qc bK xL 85 XG.1=En XG.2:=by kernel_rfl
theorem w1:qc bK xL 102 e1.1=En e1.2:=by kernel_rfl
theorem w5:qc bK xL 47 e5.1=En e5.2:=by kernel_rfl
theorem w17:qc bK xL 47 VG.1=En VG.2:=by kernel_rfl
theorem w24:qc bK xL 113 VN.1=En VN.2:=by kernel_rfl
theorem w43:qc bK xL 102 V7.1=En V7.2:=by kernel_rfl
theorem w47:qc bK xL 47 Wb.1=En Wb.2:=by kernel_rfl
theorem w50:qc bK xL 113 Wf.1=En Wf.2:=by kernel_rfl
theorem w73:qc bK xL 47 WC.1=En WC.2:=by kernel_rfl
theorem w77:qc bK xL 102 WH.1=En WH.2:=by kernel_rfl
theorem w94:qc bK xL 137 WZ.1=En WZ.2:=by kernel_rfl
theorem w98:qc bK xL 137 W3.1=En W3.2:=by kernel_rfl
theorem zfu:qc bK xL 138 W7.1=En W7.2:=by kernel_rfl
theorem zho:qc bK xL 138 Xb.1=En Xb.2:=by kernel_rfl
theorem zgv:qc bK xL 137 Xe.1=En Xe.2:=by kernel_rfl
theorem zj9:qc bK xL 138 Xf.1=En Xf.2:=by kernel_rfl
theorem zeq:qc bK xL 137 Xi.1=En Xi.2:=by kernel_rfl
theorem zgp:qc bK xL 85 XE.1=En XE.2:=by kernel_rfl
end Go.Z
namespace Go.Z
open Go Go.Abs Go.Proofs
def XM:List (Nat×List Row):=[(47,[e2,e5,e8,VA,VD,VG,VJ,VM,VP,VS,VW,VZ,V2,V5,V8,Wb,Wd,Wh,Wk,Wn,Wq,Ws,Wu,Wx,WA,WC,WG,WI]),(85,[Xq,Xr,Xt,Xu,Xv,Xw,Xx,Xy,Xz,XA,XB,XD,XE,XF,XG,XH,XI,XJ,XK,XL]),(113,[e3,e6,e9,VB,VE,VH,VK,VN,VQ,VT,VX,V0,V3,V6,V9,Wf,Wi,Wl,Wo,Wv,Wy,WD,WJ]),(102,[e1,e4,e7,Vz,VC,VF,VI,VL,VO,VR,VU,VY,V1,V4,V7,Wa,Wc,Wg,Wj,Wm,Wp,Wr,Wt,Ww,Wz,WB,WE,WH]),(137,[WK,WM,WO,WR,WT,WV,WX,WZ,W1,W3,W6,W8,Xa,Xc,Xe,Xg,Xi,Xk,Xm,Xo]),(138,[WL,WN,WQ,WS,WU,WW,WY,W0,W2,W5,W7,W9,Xb,Xd,Xf,Xh,Xj,Xl,Xn,Xp])]
def tab:Nat→Option (List Row):=xP XM
theorem j8w:Qm Tryz.prog tab:=
 Qn (t:=XM) ⟨⟨qg bN w2,qg bN w5,qg bN w8,qg bN w11,qg bN w14,qg bN w17,qg bN w20,qg bN w23,qg bN w26,qg bN w29,qg bN w32,qg bN w35,qg bN w38,qg bN w41,qg bN w44,qg bN w47,qg bN w49,qg bN w52,qg bN w55,qg bN w58,qg bN w61,qg bN w63,qg bN w65,qg bN w68,qg bN w71,qg bN w73,qg bN w76,qg bN w78,trivial⟩,⟨qg bN zfw,qg bN zdf,qg bN zd3,qg bN zfp,qg bN zkq,qg bN zcr,qg bN zgi,qg bN zja,qg bN zc0,qg bN zj5,qg bN zg8,qg bN zde,qg bN zgp,qg bN zix,qg bN zc5,qg bN zi8,qg bN zkg,qg bN zds,qg bN zee,qg bN zf8,trivial⟩,⟨qg bN w3,qg bN w6,qg bN w9,qg bN w12,qg bN w15,qg bN w18,qg bN w21,qg bN w24,qg bN w27,qg bN w30,qg bN w33,qg bN w36,qg bN w39,qg bN w42,qg bN w45,qg bN w50,qg bN w53,qg bN w56,qg bN w59,qg bN w66,qg bN w69,qg bN w74,qg bN w79,trivial⟩,⟨qg bN w1,qg bN w4,qg bN w7,qg bN w10,qg bN w13,qg bN w16,qg bN w19,qg bN w22,qg bN w25,qg bN w28,qg bN w31,qg bN w34,qg bN w37,qg bN w40,qg bN w43,qg bN w46,qg bN w48,qg bN w51,qg bN w54,qg bN w57,qg bN w60,qg bN w62,qg bN w64,qg bN w67,qg bN w70,qg bN w72,qg bN w75,qg bN w77,trivial⟩,⟨qg bN w80,qg bN w82,qg bN w84,qg bN w86,qg bN w88,qg bN w90,qg bN w92,qg bN w94,qg bN w96,qg bN w98,qg bN zge,qg bN zjk,qg bN zcy,qg bN zjh,qg bN zgv,qg bN zb9,qg bN zeq,qg bN zce,qg bN zdb,qg bN zhp,trivial⟩,⟨qg bN w81,qg bN w83,qg bN w85,qg bN w87,qg bN w89,qg bN w91,qg bN w93,qg bN w95,qg bN w97,qg bN w99,qg bN zfu,qg bN zgn,qg bN zho,qg bN zdz,qg bN zj9,qg bN zfz,qg bN ziv,qg bN zec,qg bN zi0,qg bN zfj,trivial⟩,trivial⟩
def ej:jz:={ bO:=bK.bO,cN:=fun k=>match tab k with
 |some l=>En fun args=>Dp args l
 |none=>Uz k,dS:=bK.dS,maps:=bK.maps }
theorem eo:bZ Tryz.prog ej where
 fn:=bN.fn
 iL:=by
  intro k f hf
  simp only[ej]at hf
  split at hf
  ·rename_i l hl
   cases hf
   exact⟨uO (Qo XM (by kernel_rfl) k l hl),fun args v o hv _ _=>j8w k l hl _ (Qp hv)⟩
  ·exact bN.iL k f hf
 mixed:=bN.mixed
 fW:=bN.fW
 maps:=bN.maps
abbrev xA:=iM ej 1000
end Go.Z
