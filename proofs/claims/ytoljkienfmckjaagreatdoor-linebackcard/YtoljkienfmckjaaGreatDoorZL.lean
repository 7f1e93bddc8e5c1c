/-
  The program with the library's contracts: the functions of the texts in it.
-/
import Derived.Test.YtoljkienfmckjaaGreatDoorG0m
import Derived.Test.YtoljkienfmckjaaGreatDoorLG
import Derived.Test.YtoljkienfmckjaaGreatDoorZI
import Derived.Test.YtoljkienfmckjaaGreatDoorN0
set_option linter.unusedVariables false
set_option linter.unusedSimpArgs false
set_option maxRecDepth 100000
namespace Go.Z
open Go Go.Abs Go.Proofs
def strsOf:List AVal→Option (List (List UInt8))
 | []=>some []
 | .str s::xs=>(strsOf xs).map (s::·)
 | _=>none
theorem strsOf_map:∀ ss:List (List UInt8),strsOf (ss.map vstr)=some ss
 | []=>rfl
 | s::ss=>by show (strsOf (ss.map vstr)).map (s::·)=_; rw [strsOf_map ss]; rfl
theorem strsOf_eq:∀ {xs:List AVal} {ss:List (List UInt8)},strsOf xs=some ss→xs=ss.map .str
 | [],ss,h=>by cases h; rfl
 | x::xs,ss,h=>by
  cases x with
  | str s=>
   obtain ⟨l,h1,rfl⟩:=Option.map_eq_some_iff.1 (show (strsOf xs).map (s::·)=some ss from h)
   rw [strsOf_eq h1]; rfl
  | _=>cases h
noncomputable def E40 (n:Int):Option (List UInt8):=exO (-9223372036854775808≤n∧n≤9223372036854775807) (Lib.itoa n)
noncomputable def E44 (s p:List UInt8):Option (List UInt8 × Bool):=exO (s.length≤9223372036854775807) (Lib.trimSuffix s p,Lib.hasSuffix s p)
noncomputable def E146 (s p:List UInt8):Option (List UInt8 × Bool):=some (Lib.trimPrefix s p,Lib.hasPrefix s p)
noncomputable def E89 (s:List UInt8) (c:Int):Option Int:=some (Lib.indexByte s c.toNat.toUInt8)
noncomputable def E91 (s p:List UInt8):Option (Option (List (List UInt8))):=exO (s.length < 4294967281∧1≤p.length) (some ((Lib.splitB ⟨⟨p⟩⟩ 0 (Lib.countB ⟨⟨s⟩⟩ ⟨⟨p⟩⟩) ⟨⟨s⟩⟩).map fun x=>x.data.toList))
noncomputable def E38 (ss:List (List UInt8)) (p:List UInt8):Option (List UInt8):=exO (ss ≠ []∧ss.length≤140737488355328∧(Lib.join ss p).length≤140737488355328) (Lib.join ss p)
noncomputable def t40:List AVal→Option (AVal × Bool)
 | [.int .i64 n]=>(E40 n).map fun r=>(.str r,false)
 | _=>none
noncomputable def t44:List AVal→Option (AVal × Bool)
 | [.str s,.str p]=>(E44 s p).map fun r=>(.tup [.str r.1,.bool r.2],false)
 | _=>none
noncomputable def t146:List AVal→Option (AVal × Bool)
 | [.str s,.str p]=>(E146 s p).map fun r=>(.tup [.str r.1,.bool r.2],false)
 | _=>none
noncomputable def t89:List AVal→Option (AVal × Bool)
 | [.str s,.int .u8 c]=>(E89 s c).map fun r=>(.int .i64 r,false)
 | _=>none
noncomputable def t91:List AVal→Option (AVal × Bool)
 | [.str s,.str p]=>(E91 s p).map fun r=>(sl 1 vstr r,false)
 | _=>none
noncomputable def t38:List AVal→Option (AVal × Bool)
 | [.list false 1 xs,.str p]=>(strsOf xs).bind fun ss=>(E38 ss p).map fun r=>(.str r,false)
 | _=>none
noncomputable def moreD:Prims:=fun k=>
 bif Nat.beq k 40 then some t40 else bif Nat.beq k 44 then some t44 else bif Nat.beq k 146 then some t146 else
 bif Nat.beq k 89 then some t89 else bif Nat.beq k 91 then some t91 else bif Nat.beq k 38 then some t38 else none
def opD:Nat→Bool:=fun k=>Nat.beq k 9 || (Nat.beq k 45 || Nat.beq k 121)
noncomputable def prD:AProg:=withP pr moreD opD
theorem t40_ok {args v o} (h:t40 args=some (v,o)):IsoCall Tryz.prog 40 args v o:=by
 unfold t40 at h; split at h
 ·obtain ⟨r,h1,h2⟩:=Option.map_eq_some_iff.1 h
  cases h2; obtain ⟨⟨ha,hb⟩,rfl⟩:=exO_some h1; exact itoa_iso ha hb
 ·cases h
theorem t44_ok {args v o} (h:t44 args=some (v,o)):IsoCall Tryz.prog 44 args v o:=by
 unfold t44 at h; split at h
 ·obtain ⟨r,h1,h2⟩:=Option.map_eq_some_iff.1 h
  cases h2; obtain ⟨ha,rfl⟩:=exO_some h1; exact cutSuffix_iso ha
 ·cases h
theorem t146_ok {args v o} (h:t146 args=some (v,o)):IsoCall Tryz.prog 146 args v o:=by
 unfold t146 at h; split at h
 ·obtain ⟨r,h1,h2⟩:=Option.map_eq_some_iff.1 h
  cases h2; cases h1; exact cutPrefix_iso
 ·cases h
theorem t89_ok {args v o} (h:t89 args=some (v,o)):IsoCall Tryz.prog 89 args v o:=by
 unfold t89 at h; split at h
 ·obtain ⟨r,h1,h2⟩:=Option.map_eq_some_iff.1 h
  cases h2; cases h1; exact indexByte_iso
 ·cases h
theorem t91_ok {args v o} (h:t91 args=some (v,o)):IsoCall Tryz.prog 91 args v o:=by
 unfold t91 at h; split at h
 ·obtain ⟨r,h1,h2⟩:=Option.map_eq_some_iff.1 h
  cases h2; obtain ⟨⟨ha,hb⟩,rfl⟩:=exO_some h1
  have:=split_iso ha hb
  show IsoCall Tryz.prog 91 _ (.list false 1 (((Lib.splitB _ 0 _ _).map fun x=>x.data.toList).map vstr)) false
  rw [List.map_map]
  exact this
 ·cases h
theorem t38_ok {args v o} (h:t38 args=some (v,o)):IsoCall Tryz.prog 38 args v o:=by
 unfold t38 at h; split at h
 ·obtain ⟨ss,h0,h⟩:=Option.bind_eq_some_iff.1 h
  obtain ⟨r,h1,h2⟩:=Option.map_eq_some_iff.1 h
  cases h2; obtain ⟨⟨ha,hb,hc⟩,rfl⟩:=exO_some h1
  rw [strsOf_eq h0]; exact join_iso ha hb hc
 ·cases h
theorem okD:ProgOk Tryz.prog prD:=withP_ok okPr (by
 intro k f hf
 simp only [moreD,Bool.cond_eq_ite] at hf
 split at hf
 ·next hb=>cases hf; obtain rfl:=Nat.eq_of_beq_eq_true hb; exact ⟨enters_tree (k:=40) (by kernel_rfl),fun args v o h _ _=>t40_ok h⟩
 split at hf
 ·next hb=>cases hf; obtain rfl:=Nat.eq_of_beq_eq_true hb; exact ⟨enters_tree (k:=44) (by kernel_rfl),fun args v o h _ _=>t44_ok h⟩
 split at hf
 ·next hb=>cases hf; obtain rfl:=Nat.eq_of_beq_eq_true hb; exact ⟨enters_tree (k:=146) (by kernel_rfl),fun args v o h _ _=>t146_ok h⟩
 split at hf
 ·next hb=>cases hf; obtain rfl:=Nat.eq_of_beq_eq_true hb; exact ⟨enters_tree (k:=89) (by kernel_rfl),fun args v o h _ _=>t89_ok h⟩
 split at hf
 ·next hb=>cases hf; obtain rfl:=Nat.eq_of_beq_eq_true hb; exact ⟨enters_tree (k:=91) (by kernel_rfl),fun args v o h _ _=>t91_ok h⟩
 split at hf
 ·next hb=>cases hf; obtain rfl:=Nat.eq_of_beq_eq_true hb; exact ⟨enters_tree (k:=38) (by kernel_rfl),fun args v o h _ _=>t38_ok h⟩
 ·cases hf)
theorem atD {k:Nat} (ho:opD k=false) (hm:moreD k=none) {args:List AVal} {v:AVal} {o:Bool} (h:callIso pr (X pr) k args=some (v,o)) (hv:below 0 v=true):callIso prD (X prD) k args=some (v,o):=withP_call ho hm h hv
end Go.Z
