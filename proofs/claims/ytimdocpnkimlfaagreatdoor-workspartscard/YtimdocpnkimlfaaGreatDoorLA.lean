/- The library's functions in the abstract machine. -/
import Derived.Test.YtimdocpnkimlfaaGreatDoorZS
import Derived.Test.YtimdocpnkimlfaaGreatDoorZP
import Derived.Lib.AppendIntMem
import Derived.Test.YtimdocpnkimlfaaGreatDoorZM
import Derived.Test.YtimdocpnkimlfaaGreatDoorL1
set_option linter.unusedVariables false
set_option linter.unusedSimpArgs false
set_option maxRecDepth 100000
open Nat renaming eq_of_beq_eq_true→I,beq→Gn,le_of_ble_eq_true→Gq,blt→Gy,ble→Gz,blt_eq→G5
open Bool renaming and_eq_true→En,false→Ey,cond_eq_ite→Gs,true→Gv,false_eq_true→Gw
open Option renaming some→Gp,none→Gt
open List renaming length_map→G0,isPrefixOf→G1,length_singleton→G2,cons_append→G6,mem_map→G7,map_map→G9
namespace Go.Z
open Go Go.Abs Go.Proofs Go.RowKit
theorem q3n {C}:∀(l:List ByteArray),aV C (l.map fun s=>.str s.data.toList) (l.map Value.string)
 | []=>.nil
 |s::l=>.cons _ _ _ _ (show bN C (.str s.data.toList) (.string s)from .str _) (q3n l)
theorem q6f {C r}:∀ {ss:List (List UInt8)} {o:Nat},bu C r 1 (ss.map AVal.str) o→∀(j:Nat) s,ss[j]?=Gp s→C.K r (o+j)=Gp (.string ⟨⟨s⟩⟩)
 | [],o,_,j,s,hj=>by simp at hj
 |x::ss,o,h,j,s,hj=>by
  cases h with
  |dF _ _ _ _ _ hs hx hr=>
   cases j with
   |zero=>
    simp only[List.getElem?_cons_zero,Gp.injEq]at hj
    subst hj
    cases hx with
    |dL _ _ _ _ u hv hu _=>
     rw[Nat.add_zero,hv,bN.cy hu]
   |succ j=>
    have:=q6f hr j s (by simpa using hj)
    rw[show o+(j+1)=o+1+j by omega]
    exact this
theorem Yt {w w'}(h:Below w.heap.size w w'):Ext w w':=⟨h.size,h.block,h.os,h.output⟩
theorem jl3 {n}(h0:-9223372036854775808≤n)(h1:n≤9223372036854775807):IsoCall Tryz.prog 103 [.int .i64 n] (.str (Lib.itoa n)) Ey:=by
 refine HY fun K w vs ht hk hr=>?_
 cases hr with
 |cons _ _ v vs hx hr=>
  cases hr
  obtain rfl:=bN.bO hx
  have hg:Tryz.prog.globalNamed ol=Gp 1:=by kernel_rfl
  refine⟨.string ⟨⟨Lib.itoa n⟩⟩,.str _,(Tryz.strconv_Itoa n h0 h1 w (ht.table hg)).mono ?_⟩
  rintro e w' ⟨rfl,k,os,rfl⟩
  exact⟨rfl,Yt (Lib.below_grow w.heap.size w (Nat.le_refl _) k os)⟩
theorem q1e {s c}:IsoCall Tryz.prog 254 [.str s,.int .u8 c] (.int .i64 (Lib.indexByte s c.toNat.toUInt8)) Ey:=by
 refine HY fun K w vs ht hk hr=>?_
 cases hr with
 |cons _ _ v vs hx hr=>
  cases hr with
  |cons _ _ v2 vs iQ hr=>
   cases hr
   obtain rfl:=bN.cy hx
   obtain rfl:=bN.bO iQ
   refine⟨_,.int _ _,(Tryz.stringslite_IndexByte ⟨⟨s⟩⟩ c w).mono ?_⟩
   rintro e w' ⟨rfl,rfl⟩
   exact⟨rfl,Ext.refl _⟩
theorem jgf {s p}(hs:s.length<4294967281)(hp:1≤p.length):IsoCall Tryz.prog 44 [.str s,.str p] (.list Ey 1 ((Lib.splitB ⟨⟨p⟩⟩ 0 (Lib.countB ⟨⟨s⟩⟩ ⟨⟨p⟩⟩) ⟨⟨s⟩⟩).map fun x=>.str x.data.toList)) Ey:=by
 refine jjn (us:=(Lib.splitB ⟨⟨p⟩⟩ 0 (Lib.countB ⟨⟨s⟩⟩ ⟨⟨p⟩⟩) ⟨⟨s⟩⟩).map Value.string) (t:=9) (fun x hx=>?_) (fun K=>q3n _) (fun u hu=>?_) fun K w vs ht hk hr=>?_
 ·obtain⟨y,_,rfl⟩:=G7.1 hx;rfl
 ·obtain⟨y,_,rfl⟩:=G7.1 hu;rfl
 ·cases hr with
  |cons _ _ v vs hx hr=>
   cases hr with
   |cons _ _ v2 vs iQ hr=>
    cases hr
    obtain rfl:=bN.cy hx
    obtain rfl:=bN.cy iQ
    have hg0:Tryz.prog.globalNamed yR=Gp 0:=by kernel_rfl
    obtain⟨m,hm⟩:=ht.length hg0
    refine(Tryz.strings_Split ⟨⟨s⟩⟩ ⟨⟨p⟩⟩ m w hs hm hp).mono ?_
    rintro e w' ⟨rfl,rfl⟩
    refine⟨?_,rfl⟩
    rw[G0,Lib.splitB_all ⟨⟨p⟩⟩ hp 0 _ ⟨⟨s⟩⟩ rfl]
theorem jjh {ss p}(bB:ss≠[])(hN:ss.length≤140737488355328)(hlen:(Lib.join ss p).length≤140737488355328):IsoCall Tryz.prog 105 [.list Ey 1 (ss.map .str),.str p] (.str (Lib.join ss p)) Ey:=by
 refine HY fun K w vs ht hk hr=>?_
 cases hr with
 |cons _ _ v vs hx hr=>
  cases hr with
  |cons _ _ v2 vs iQ hr=>
   cases hr
   obtain rfl:=bN.cy iQ
   have hl:∃r o cap,v=.slice (Gp ⟨r,o,Gt⟩) (ss.map AVal.str).length cap∧(ss.map AVal.str).length≤cap∧bu (.bW K) r 1 (ss.map .str) o:=by
    generalize hq:ss.map AVal.str=q at hx
    cases hx with
    |list _ _ r o cap hl du=>exact⟨r,o,cap,rfl,hl,du⟩
    |jM _ a hs=>exact absurd (List.map_eq_nil_iff.1 hq) bB
   obtain⟨r,o,cap,rfl,hcap,du⟩:=hl
   have lO:(ss.map fun s=>(⟨⟨s⟩⟩:ByteArray)).map (·.data.toList)=ss:=by
    rw[G9]
    exact List.map_id' _
   have hcells:∀(j:Nat) x,(ss.map fun s=>(⟨⟨s⟩⟩:ByteArray))[j]?=Gp x→w.cell? ⟨r,o+j,Gt⟩=Gp (.string x):=by
    intro j x hj
    rw[List.getElem?_map,Option.map_eq_some_iff]at hj
    obtain⟨s,hs,rfl⟩:=hj
    exact hk _ _ _ (q6f du j s hs)
   have hbk:r<w.heap.size:=by
    cases yY:ss with
    |nil=>exact absurd yY bB
    |cons s l=>
     have:=hcells 0 ⟨⟨s⟩⟩ (by rw[yY];rfl)
     rcases Nat.lt_or_ge r w.heap.size with h|h
     ·exact h
     ·simp[World.cell?,Array.getElem?_eq_none h]at this
   have hj:=Tryz.strings_Join r o cap (ss.map fun s=>(⟨⟨s⟩⟩:ByteArray)) ⟨⟨p⟩⟩ w hcells hbk (by simpa using hN) (by simpa using hcap) (by rw[lO];exact hlen)
   rw[lO,G0]at hj
   rw[G0]
   refine⟨.string ⟨⟨Lib.join ss p⟩⟩,.str _,hj.mono ?_⟩
   rintro e w' ⟨rfl,hb⟩
   exact⟨rfl,Yt hb⟩
theorem q9w {s:List UInt8}{c}(hc:c≤9223372036854775807)(hlen:s.length*c≤140737488355328):IsoCall Tryz.prog 196 [.str s,.int .i64 (c:Int)] (.str (Lib.repeatL s c)) Ey:=by
 refine HY fun K w vs ht hk hr=>?_
 cases hr with
 |cons _ _ v vs hx hr=>
  cases hr with
  |cons _ _ v2 vs iQ hr=>
   cases hr
   obtain rfl:=bN.cy hx
   obtain rfl:=bN.bO iQ
   refine⟨.string ⟨⟨Lib.repeatL s c⟩⟩,.str _,(Tryz.strings_Repeat ⟨⟨s⟩⟩ c w hc hlen).mono ?_⟩
   rintro e w' ⟨rfl,hb⟩
   exact⟨rfl,Yt hb⟩
theorem q04 {p}:IsoCall Tryz.prog 105 [.list Gv 0 [],.str p] (.str []) Ey:=by
 refine HY fun K w vs ht hk hr=>?_
 cases hr with
 |cons _ _ v vs hx hr=>
  cases hr with
  |cons _ _ v2 vs iQ hr=>
   cases hr
   obtain rfl:=bN.cy iQ
   cases hx
   refine⟨.string ⟨#[]⟩,.str _,(Tryz.strings_Join_none _ _ ⟨⟨p⟩⟩ w).mono ?_⟩
   rintro e w' ⟨rfl,rfl⟩
   exact⟨rfl,Ext.refl _⟩
end Go.Z
namespace Go.Z
open Go Go.Abs Go.Proofs
def xn (c:UInt8)(acc:List UInt8):List UInt8→List (List UInt8)
 | []=>[acc]
 |x::t=>if x=c then acc::xn c [] t else xn c (acc++[x]) t
def xp (c:UInt8)(s:List UInt8):List (List UInt8):=xn c [] s
theorem q9n {c}:∀ {s:List UInt8} {acc:List UInt8},c ∉ s→xn c acc s=[acc++s]
 | [],acc,_=>by simp[xn]
 |x::t,acc,h=>by
  have h1:x≠c:=fun e=>h (by simp[e])
  have h2:c ∉ t:=fun e=>h (by simp[e])
  rw[xn,if_neg h1,q9n h2]
  simp
theorem q81 {c}:∀ {a b acc:List UInt8},c ∉ a→xn c acc (a++c::b)=(acc++a)::xp c b
 | [],b,acc,_=>by simp[xn,xp]
 |x::t,b,acc,h=>by
  have h1:x≠c:=fun e=>h (by simp[e])
  have h2:c ∉ t:=fun e=>h (by simp[e])
  rw[G6,xn,if_neg h1,q81 h2]
  simp
theorem ju2 {c s}(h:c ∉ s):xp c s=[s]:=q9n h
theorem jzi {c a b}(h:c ∉ a):xp c (a++c::b)=a::xp c b:=q81 h
theorem jfc (c:UInt8)(s:List UInt8):c ∉ s∨∃a b,s=a++c::b∧c ∉ a:=by
 by_cases h:c∈s
 ·obtain⟨a,b,h1,h2⟩:=List.eq_append_cons_of_mem h
  exact .inr ⟨a,b,h1,h2⟩
 ·exact .inl h
theorem q8y {c:UInt8}{P:List UInt8→Prop}(h0:∀s,c ∉ s→P s)(h1:∀a b,c ∉ a→P b→P (a++c::b)):∀(n:Nat) (s:List UInt8),s.length≤n→P s
 |0,s,hn=>h0 s (by rw[List.length_eq_zero_iff.1 (by omega:s.length=0)];simp)
 |n+1,s,hn=>by
  rcases jfc c s with h|⟨a,b,rfl,h⟩
  ·exact h0 s h
  ·exact h1 a b h (q8y h0 h1 n b (by simp only[List.length_append,List.length_cons]at hn;omega))
theorem q52 {c}:∀ {s:List UInt8},c ∉ s→Lib.index s [c]=-1
 | [],_=>rfl
 |x::t,h=>by
  have h1:x≠c:=fun e=>h (by simp[e])
  have h2:c ∉ t:=fun e=>h (by simp[e])
  have hp:([c]:List UInt8).isPrefixOf (x::t)=Ey:=by simp[G1,Ne.symm h1]
  rw[Lib.index,hp,q52 h2];rfl
theorem q6m {c}:∀ {a b:List UInt8},c ∉ a→Lib.index (a++c::b) [c]=(a.length:Int)
 | [],b,_=>by simp[Lib.index,G1]
 |x::t,b,h=>by
  have h1:x≠c:=fun e=>h (by simp[e])
  have h2:c ∉ t:=fun e=>h (by simp[e])
  have hp:([c]:List UInt8).isPrefixOf (x::(t++c::b))=Ey:=by simp[G1,Ne.symm h1]
  have bB:((t.length:Int) == -1)=Ey:=by simp
  rw[G6,Lib.index,hp,q6m h2,bB]
  simp
theorem jin (c:UInt8)(s:List UInt8):Lib.split s [c]=xp c s:=by
 refine q8y (c:=c) (P:=fun s=>Lib.split s [c]=xp c s) ?_ ?_ s.length s (Nat.le_refl _)
 ·intro s h
  rw[ju2 h,Lib.split,Lib.count_miss (q52 h)];rfl
 ·intro a b h ih
  have hi:=q6m (b:=b) h
  have hd:(a++c::b).drop (a.length+1)=b:=by
   rw[show a++c::b=(a++[c])++b by simp,show a.length+1=(a++[c]).length by simp,List.drop_left]
  have hm:((a.length:Int) == -1)=Ey:=by simp
  rw[jzi h,Lib.split,Lib.count_hit (by simp) hi]
  simp only[G2,hd,Nat.add_comm 1]
  rw[Lib.splitK,hi,hm]
  simp only[Gw,if_false,Int.toNat_natCast,Nat.add_zero,G2,hd]
  rw[List.take_left',←ih]; · rfl
  ·rfl
def JN (c:UInt8):List UInt8→Nat→Int
 | [],_=>-1
 |b::l,n=>bif b == c then(n:Int)else JN c l (n+1)
theorem q80 (c:UInt8):∀(l:List UInt8) (n:Nat),JN c l n=if Lib.indexByte l c == -1 then -1 else Lib.indexByte l c+n
 | [],n=>rfl
 |b::l,n=>by
  have vr:=Lib.indexByte_ge l c
  rw[JN,Lib.indexByte,q80 c l (n+1)]
  cases hb:(b == c)with
  |true=>simp
  |false=>
   simp only[cond_false,Gw,if_false]
   by_cases h:Lib.indexByte l c=-1
   ·simp[h]
   ·have h1:(Lib.indexByte l c == -1)=Ey:=by simpa using h
    have h2:(Lib.indexByte l c+1 == -1)=Ey:=by simp;omega
    simp only[h1,h2,Gw,if_false]
    omega
theorem jec (c:UInt8)(l:List UInt8):JN c l 0=Lib.indexByte l c:=by
 rw[q80]
 by_cases h:Lib.indexByte l c=-1
 ·simp[h]
 ·have h1:(Lib.indexByte l c == -1)=Ey:=by simpa using h
  simp[h1]
def JO:Nat→Nat→List UInt8→List UInt8
 |0,_,acc=>acc
 |f+1,u,acc=>bif Gy u 10 then UInt8.ofNat (48+u)::acc else JO f (u / 10) (UInt8.ofNat (48+u % 10)::acc)
theorem q8h:∀ (f u:Nat) (acc:List UInt8),u<10^f→0<f→JO f u acc=Lib.decDigits u++acc
 |0,_,_,_,h=>by omega
 |f+1,u,acc,hu,_=>by
  rw[JO,Lib.decDigits]
  by_cases h:u<10
  ·rw[G5.mpr h];simp[h]
  ·have hb:Gy u 10=Ey:=by
    cases hh:Gy u 10 with
    |false=>rfl
    |true=>exact absurd (G5.mp hh) h
   have hf:0<f:=by
    rcases Nat.eq_zero_or_pos f with rfl|h1
    ·simp at hu;omega
    ·exact h1
   rw[hb,dif_neg h]
   simp only[cond_false]
   rw[q8h f (u / 10) _ (by rw[Nat.pow_succ]at hu;omega) hf]
   simp
def NS:List AVal→Option (List (List UInt8))
 | []=>Gp []
 | .str s::l=>match NS l with
  |some r=>Gp (s::r)
  |none=>Gt
 |_=>Gt
theorem q0y:∀ {l:List AVal} {r:List (List UInt8)},NS l=Gp r→l=r.map .str
 | [],r,h=>by cases h;rfl
 | .str s::l,r,h=>by
  simp only[NS]at h
  split at h
  ·rename_i q hq
   cases h
   rw[q0y hq];rfl
  ·cases h
 | .bool _::_,_,h | .int ..::_,_,h | .list ..::_,_,h | .ms ..::_,_,h | .ptr ..::_,_,h | .ah _::_,_,h | .b4::_,_,h | .map _::_,_,h | .bY::_,_,h | .fn ..::_,_,h | .cz::_,_,h | .agg _::_,_,h | .aB _::_,_,h | .undef::_,_,h | .any::_,_,h | .aw ..::_,_,h | .dQ ..::_,_,h | .dc _::_,_,h=>by cases h
def Yu:List AVal→Option (AVal×Bool)
 | [.str s,.int .u8 (.ofNat c)]=>Gp (.int .i64 (JN (UInt8.ofNat c) s 0),Ey)
 |_=>Gt
def Yv:List AVal→Option (AVal×Bool)
 | [.str s,.str [c]]=>bif Gy s.length 4294967281 then Gp (.list Ey 1 ((xp c s).map .str),Ey)else Gt
 |_=>Gt
def t99:List AVal→Option (AVal×Bool)
 | [.list Gv 0 [],.str _]=>Gp (.str [],Ey)
 | [.list Ey 1 l,.str p]=>match NS l with
  |some (s::ss)=>bif Gz (s::ss).length 100000&&Gz (p.intercalate (s::ss)).length 100000000 then Gp (.str (p.intercalate (s::ss)),Ey)else Gt
  |_=>Gt
 |_=>Gt
def JP:List AVal→Option (AVal×Bool)
 | [.int .i64 (.ofNat n)]=>bif Gy n 1000000000000000000 then Gp (.str (JO 18 n []),Ey)else Gt
 |_=>Gt
def Yw:List AVal→Option (AVal×Bool)
 | [.str s,.int .i64 (.ofNat c)]=>bif Gz c 100000&&Gz (s.length*c) 100000 then Gp (.str (Lib.repeatL s c),Ey)else Gt
 |_=>Gt
theorem jpn {args v o}(h:Yu args=Gp (v,o)):IsoCall Tryz.prog 254 args v o:=by
 unfold Yu at h;split at h
 ·rename_i s c
  cases h
  rw[jec]
  exact q1e (s:=s) (c:=Int.ofNat c)
 ·cases h
theorem jqk {args v o}(h:Yv args=Gp (v,o)):IsoCall Tryz.prog 44 args v o:=by
 unfold Yv at h;split at h
 ·rename_i s c
  cases hl:Gy s.length 4294967281 with
  |false=>rw[hl]at h;cases h
  |true=>
   rw[hl]at h
   cases h
   have:=jgf (s:=s) (p:=[c]) (G5.mp hl) (by simp)
   have e:(Lib.splitB ⟨⟨[c]⟩⟩ 0 (Lib.countB ⟨⟨s⟩⟩ ⟨⟨[c]⟩⟩) ⟨⟨s⟩⟩).map (fun x=>AVal.str x.data.toList)=(xp c s).map .str:=by
    rw[←jin]
    have e2:(Lib.splitB ⟨⟨[c]⟩⟩ 0 (Lib.countB ⟨⟨s⟩⟩ ⟨⟨[c]⟩⟩) ⟨⟨s⟩⟩).map (·.data.toList)=Lib.split s [c]:=by
     rw[Lib.splitB_data];rfl
    rw[←e2,G9];rfl
   rw[e]at this
   exact this
 ·cases h
theorem jt5 {args v o}(h:t99 args=Gp (v,o)):IsoCall Tryz.prog 105 args v o:=by
 unfold t99 at h;split at h
 ·cases h;exact q04
 ·rename_i l p
  split at h
  ·rename_i s ss hq
   cases hk:(Gz (s::ss).length 100000&&Gz (p.intercalate (s::ss)).length 100000000)with
   |false=>rw[hk]at h;cases h
   |true=>
    rw[hk]at h
    cases h
    simp only[En]at hk
    have h1:=Gq hk.1
    have h2:=Gq hk.2
    rw[q0y hq]
    exact jjh (ss:=s::ss) (p:=p) (by simp) (by omega) (by show(p.intercalate (s::ss)).length≤_;omega)
  ·cases h
 ·cases h
theorem q8u {args v o}(h:JP args=Gp (v,o)):IsoCall Tryz.prog 103 args v o:=by
 unfold JP at h;split at h
 ·rename_i n
  cases hk:Gy n 1000000000000000000 with
  |false=>rw[hk]at h;cases h
  |true=>
   rw[hk]at h
   cases h
   have hn:=G5.mp hk
   have:=jl3 (n:=Int.ofNat n) (by simp<;>omega) (by simp<;>omega)
   have e:Lib.itoa (Int.ofNat n)=JO 18 n []:=by
    rw[q8h 18 n [] (by omega) (by omega),List.append_nil]
    unfold Lib.itoa
    rw[if_neg (by simp)]
    rfl
   rw[e]at this
   exact this
 ·cases h
theorem jr7 {args v o}(h:Yw args=Gp (v,o)):IsoCall Tryz.prog 196 args v o:=by
 unfold Yw at h;split at h
 ·rename_i s c
  cases hk:(Gz c 100000&&Gz (s.length*c) 100000)with
  |false=>rw[hk]at h;cases h
  |true=>
   rw[hk]at h
   cases h
   simp only[En]at hk
   have h1:=Gq hk.1
   have h2:=Gq hk.2
   exact q9w (s:=s) (c:=c) (by omega) (by omega)
 ·cases h
theorem je6 {k f}(h:Is k f):Abs.Enters Tryz.prog k:=by
 obtain⟨fn,hh,h1,h2⟩:=h
 obtain⟨c,g1,g2,g3,g4,g5⟩:=VK h2
 exact⟨fn,h1,g5,by rw[g1];rfl⟩
theorem vf {k}(h:(tree.find k).isSome=Gv):Abs.Enters Tryz.prog k:=by
 obtain⟨f,hf⟩:=Option.isSome_iff_exists.1 h
 exact je6 (dG.gy all hf)
def Uz:yI:=fun k=>bif Gn k 254 then Gp Yu else bif Gn k 44 then Gp Yv else bif Gn k 105 then Gp t99 else bif Gn k 103 then Gp JP else bif Gn k 196 then Gp Yw else Gt
def Yx (args:List AVal)(h:qh):Option (AVal×Bool×qh):=bif qx 0 args then(match JP args with
 |some (v,_)=>Gp (v,Ey,h)
 |none=>Gt)else Gt
def q9q:jgh:=fun k=>bif Gn k 103 then Gp Yx else Gt
def isL (k:Nat):Bool:=Gn k 254||Gn k 44||Gn k 105||Gn k 103||Gn k 196
def bF:zb:={ bQ:=fun k=>bif isL k then Gt else pr.bQ k,cO:=Uz,dP:=q9q,maps:=Yy }
theorem jq5 {args h v o h'}(hq:Yx args h=Gp (v,o,h')):BA Tryz.prog 103 args h v o h':=by
 unfold Yx at hq
 cases hb:qx 0 args with
 |false=>rw[hb]at hq;cases hq
 |true=>
  rw[hb]at hq
  simp only[cond_true]at hq
  split at hq
  ·rename_i v' o' ht
   cases hq
   have hv:mG v=Gv:=by
    unfold JP at ht;split at ht
    ·rename_i n
     cases hk:Gy n 1000000000000000000 with
     |false=>rw[hk]at ht;cases ht
     |true=>rw[hk]at ht;cases ht;rfl
    ·cases ht
   exact(q8u ht).shr hb hv h
  ·cases hq
theorem UA:∀ (t:List (Nat×List Row)),(t.all fun p=>(tree.find p.1).isSome)=Gv→∀k l,yH t k=Gp l→(tree.find k).isSome=Gv
 |(j,m)::t,h,k,l,hk=>by
  simp only[List.all_cons,En]at h
  simp only[yH,Gs]at hk
  split at hk
  ·next hb=>rw[←I hb];exact h.1
  ·exact UA t h.2 k l hk
theorem CC:bX Tryz.prog pr:=okM ok0
theorem bI:bX Tryz.prog bF where
 fn:=by
  intro k f hf
  simp only[bF,Gs]at hf
  split at hf
  ·cases hf
  ·exact CC.fn k f hf
 iM:=by
  intro k f hf
  simp only[bF,Uz,Gs]at hf
  split at hf
  ·next hb=>cases hf;obtain rfl:=I hb;exact⟨vf (k:=254) (by kernel_rfl),fun args v o h _ _=>jpn h⟩
  split at hf
  ·next hb=>cases hf;obtain rfl:=I hb;exact⟨vf (k:=44) (by kernel_rfl),fun args v o h _ _=>jqk h⟩
  split at hf
  ·next hb=>cases hf;obtain rfl:=I hb;exact⟨vf (k:=105) (by kernel_rfl),fun args v o h _ _=>jt5 h⟩
  split at hf
  ·next hb=>cases hf;obtain rfl:=I hb;exact⟨vf (k:=103) (by kernel_rfl),fun args v o h _ _=>q8u h⟩
  split at hf
  ·next hb=>cases hf;obtain rfl:=I hb;exact⟨vf (k:=196) (by kernel_rfl),fun args v o h _ _=>jr7 h⟩
  ·cases hf
 mixed:=CC.mixed
 gh:=by
  intro k f hf
  simp only[bF,q9q,Gs]at hf
  split at hf
  ·next hb=>cases hf;obtain rfl:=I hb;exact⟨vf (k:=103) (by kernel_rfl),fun args h v o h' hq=>jq5 hq⟩
  ·cases hf
 maps:=CC.maps
end Go.Z
namespace Go.Z
open Go Go.Abs Go.Proofs
def FJ:AVal→AVal→Bool
 | .fn (.func a) [] [],.fn (.func b) [] []=>Gn a b
 | .cz,.cz=>Gv
 | .aw a b c,.aw a' b' c'=>Gn a a'&&(Gn b b'&&Gn c c')
 | .ptr a b,.ptr a' b'=>Gn a a'&&Gn b b'
 |a,b=>jG a b
theorem NT {a b}(h:FJ a b=Gv):a=b:=by
 unfold FJ at h
 split at h
 ·rw[I h]
 ·rfl
 ·simp only[En]at h
  rw[I h.1,I h.2.1,I h.2.2]
 ·simp only[En]at h
  rw[I h.1,I h.2]
 ·exact q0c h
def JQ:List AVal→List AVal→Bool
 | [],[]=>Gv
 |a::l,b::m=>FJ a b&&JQ l m
 |_,_=>Ey
theorem Yz:∀ {l m:List AVal},JQ l m=Gv→l=m
 | [],[],_=>rfl
 |a::l,b::m,h=>by
  simp only[JQ,En]at h
  rw[NT h.1,Yz h.2]
 | [],_::_,h=>by cases h
 |_::_,[],h=>by cases h
def YA:AVal→AVal→Bool
 | .agg l,.agg m=>JQ l m
 |a,b=>FJ a b
theorem jes {a b}(h:YA a b=Gv):a=b:=by
 unfold YA at h
 split at h
 ·rw[Yz h]
 ·exact NT h
def NU:List (AVal×Bool)→List (AVal×Bool)→Bool
 | [],[]=>Gv
 |(a,o)::l,(b,q)::m=>FJ a b&&((o == q)&&NU l m)
 |_,_=>Ey
theorem qv0:∀ {l m:List (AVal×Bool)},NU l m=Gv→l=m
 | [],[],_=>rfl
 |(a,o)::l,(b,q)::m,h=>by
  simp only[NU,En,beq_iff_eq]at h
  rw[NT h.1,h.2.1,qv0 h.2.2]
 | [],_::_,h=>by cases h
 |_::_,[],h=>by cases h
def NV:List (AVal×AVal)→List (AVal×AVal)→Bool
 | [],[]=>Gv
 |(a,o)::l,(b,q)::m=>FJ a b&&(YA o q&&NV l m)
 |_,_=>Ey
theorem quq:∀ {l m:List (AVal×AVal)},NV l m=Gv→l=m
 | [],[],_=>rfl
 |(a,o)::l,(b,q)::m,h=>by
  simp only[NV,En]at h
  rw[NT h.1,jes h.2.1,quq h.2.2]
 | [],_::_,h=>by cases h
 |_::_,[],h=>by cases h
def YB:bh→bh→Bool
 | .hole,.hole=>Gv
 | .dead,.dead=>Gv
 | .cells l,.cells m=>NU l m
 | .map l,.map m=>NV l m
 | .vec a b l,.vec a' b' m=>Gn a a'&&(Gn b b'&&vH l m)
 |_,_=>Ey
theorem jc3 {a b}(h:YB a b=Gv):a=b:=by
 unfold YB at h
 split at h
 ·rfl
 ·rfl
 ·rw[qv0 h]
 ·rw[quq h]
 ·simp only[En]at h
  rw[I h.1,I h.2.1,EZ h.2.2]
 ·cases h
def NW:qh→qh→Bool
 | [],[]=>Gv
 |a::l,b::m=>YB a b&&NW l m
 |_,_=>Ey
theorem qxy:∀ {l m:qh},NW l m=Gv→l=m
 | [],[],_=>rfl
 |a::l,b::m,h=>by
  simp only[NW,En]at h
  rw[jc3 h.1,qxy h.2]
 | [],_::_,h=>by cases h
 |_::_,[],h=>by cases h
abbrev kh:=List AVal×qh×AVal×Bool×qh
def LM (args:List AVal)(h:qh):List kh→Option (AVal×Bool×qh)
 | []=>Gt
 |r::l=>bif JQ args r.1&&NW h r.2.1 then Gp r.2.2 else LM args h l
theorem q0e {args h x}:∀ {l:List kh},LM args h l=Gp x→(args,h,x)∈l
 | [],h=>by cases h
 |r::l,hx=>by
  simp only[LM,Gs]at hx
  split at hx
  ·next hb=>
   simp only[En]at hb
   cases hx
   rw[Yz hb.1,qxy hb.2]
   exact List.mem_cons_self ..
  ·exact List.mem_cons_of_mem _ (q0e hx)
def UC (P:Program)(k:Nat):List kh→Prop
 | []=>True
 |r::l=>BA P k r.1 r.2.1 r.2.2.1 r.2.2.2.1 r.2.2.2.2∧UC P k l
theorem q33 {P k}:∀ {l:List kh},UC P k l→∀r∈l,BA P k r.1 r.2.1 r.2.2.1 r.2.2.2.1 r.2.2.2.2
 |r::l,h,x,hx=>by
  cases hx with
  |head=>exact h.1
  |tail _ hx=>exact q33 h.2 x hx
theorem j6 {P p}(hp:bX P p){n k args h h' v o}(hr:qm p (iL p n) k args h=Gp (v,o,h')):BA P k args h v o h':=
 (G8 hp (cM.HI (MB hp n).1) (by rw[←MG];exact hr)).2
end Go.Z
