/- What the lexer meets; no condition beyond each theorem's own. -/
import Derived.Test.YtlkjnefenialbaaGreatDoorM02
import Derived.Outline
import Derived.IntWalk
import Derived.Deep.RegionHeld3
set_option linter.unusedVariables false
set_option linter.unusedSimpArgs false
set_option maxHeartbeats 8000000
set_option maxRecDepth 100000
namespace Go.Proofs.YtlkjnefenialbaaGreatDoor
open Go.RowKit
theorem Ge(c:Int)(w:World)(h0:0≤c)(h1:c≤255):
 Calls Tryz.prog 187 #[.int .u8 c] w fun e w'=>e= .returned (.bool (decide (48≤c∧c≤57)))∧w=w':=by
 by_cases a1:48≤c
 ·by_cases a2:c≤57
  ·rw[decide_eq_true ⟨a1,a2⟩]
   go_enter Tryz.func187,Tryz.ntmps187
   go_wp2
   go_ret
   exact⟨rfl,rfl⟩
  ·rw[decide_eq_false (fun h=>a2 h.2)]
   go_enter Tryz.func187,Tryz.ntmps187
   go_wp2
   go_ret
   exact⟨rfl,rfl⟩
 ·rw[decide_eq_false (fun h=>a1 h.1)]
  go_enter Tryz.func187,Tryz.ntmps187
  go_wp2
  go_ret
  exact⟨rfl,rfl⟩
theorem jw(b:Bool)(c:Int)(w:World)(h0:0≤c)(h1:c≤255)(hb:decide (48≤c∧c≤57)=b):Calls Tryz.prog 187 #[.int .u8 c] w fun e w'=>e= .returned (.bool b)∧w=w':=by subst hb;exact Ge c w h0 h1
theorem pG(b:Bool)(c:Int)(w:World)(h0:0≤c)(h1:c≤255)(hb:aV c=b):Calls Tryz.prog 189 #[.int .u8 c] w fun e w'=>e= .returned (.bool b)∧w=w':=by
 have hn:aV c=decide ((97≤c∧c≤122)∨(48≤c∧c≤57)∨c=95):=by
  unfold aV dP
  rw[Bool.eq_iff_iff];simp;omega
 rw[hn]at hb
 by_cases a1:97≤c
 ·by_cases a2:c≤122
  ·rw[decide_eq_true (.inl ⟨a1,a2⟩)]at hb
   subst hb
   clear hn
   go_enter Tryz.func189,Tryz.ntmps189
   go_wp2
   go_ret
   exact⟨rfl,rfl⟩
  ·have a3:48≤c:=by omega
   have a4:¬c≤57:=by omega
   have a5:(c==95)=false:=by simp;omega
   rw[decide_eq_false (by omega)]at hb
   subst hb
   clear hn
   go_enter Tryz.func189,Tryz.ntmps189
   go_wp2
   go_ret
   exact⟨rfl,rfl⟩
 ·by_cases a3:48≤c
  ·by_cases a4:c≤57
   ·rw[decide_eq_true (.inr (.inl ⟨a3,a4⟩))]at hb
    subst hb
    clear hn
    go_enter Tryz.func189,Tryz.ntmps189
    go_wp2
    go_ret
    exact⟨rfl,rfl⟩
   ·by_cases a5:c=95
    ·have a6:(c==95)=true:=by simpa using a5
     rw[decide_eq_true (.inr (.inr a5))]at hb
     subst hb
     clear hn a5
     go_enter Tryz.func189,Tryz.ntmps189
     go_wp2
     go_ret
     exact⟨rfl,rfl⟩
    ·have a6:(c==95)=false:=by simpa using a5
     rw[decide_eq_false (by omega)]at hb
     subst hb
     clear hn a5
     go_enter Tryz.func189,Tryz.ntmps189
     go_wp2
     go_ret
     exact⟨rfl,rfl⟩
  ·have a6:(c==95)=false:=by simp;omega
   rw[decide_eq_false (by omega)]at hb
   subst hb
   clear hn
   go_enter Tryz.func189,Tryz.ntmps189
   go_wp2
   go_ret
   exact⟨rfl,rfl⟩
def cW:List UInt8:=[38,43,45,42,47,37,40,41,44,61,62]
theorem k8(c:UInt8)(hc:c∈cW)(w:World):Calls Tryz.prog 190 #[.string ⟨#[c]⟩] w fun e w'=>e= .returned (.int .i64 (bM [c]))∧w=w':=by
 simp only[cW,List.mem_cons,List.not_mem_nil,or_false]at hc
 rcases hc with rfl|rfl|rfl|rfl|rfl|rfl|rfl|rfl|rfl|rfl|rfl
 all_goals
  go_enter Tryz.func190,Tryz.ntmps190
  go_wp2
  go_ret
  exact⟨rfl,rfl⟩
theorem bB {s:ByteArray}{l:List UInt8}(h:s.data.toList=l):s=⟨l.toArray⟩:=by cases s;simp at h;simp[←h]
theorem cr {s:ByteArray}{l:List UInt8}(h:¬s.data.toList=l):(s.toList==l)=false:=by rw[ByteArray.toList_eq];simpa using h
theorem qM(s:ByteArray)(w:World):Calls Tryz.prog 209 #[.string s] w fun e w'=>e= .returned (.int .i64 (cO s.data.toList))∧w=w':=by
 by_cases h0:s.data.toList=[108,101,110]
 ·obtain rfl:=bB h0
  clear h0
  go_enter Tryz.func209,Tryz.ntmps209
  go_wp2
  go_ret
  exact⟨rfl,rfl⟩
 by_cases h1:s.data.toList=[116,101,120,116]
 ·obtain rfl:=bB h1
  clear h0 h1
  go_enter Tryz.func209,Tryz.ntmps209
  go_wp2
  go_ret
  exact⟨rfl,rfl⟩
 by_cases h2:s.data.toList=[110,117,109]
 ·obtain rfl:=bB h2
  clear h0 h1 h2
  go_enter Tryz.func209,Tryz.ntmps209
  go_wp2
  go_ret
  exact⟨rfl,rfl⟩
 by_cases h3:s.data.toList=[108,101,102,116]
 ·obtain rfl:=bB h3
  clear h0 h1 h2 h3
  go_enter Tryz.func209,Tryz.ntmps209
  go_wp2
  go_ret
  exact⟨rfl,rfl⟩
 by_cases h4:s.data.toList=[114,105,103,104,116]
 ·obtain rfl:=bB h4
  clear h0 h1 h2 h3 h4
  go_enter Tryz.func209,Tryz.ntmps209
  go_wp2
  go_ret
  exact⟨rfl,rfl⟩
 by_cases h5:s.data.toList=[102,114,111,109]
 ·obtain rfl:=bB h5
  clear h0 h1 h2 h3 h4 h5
  go_enter Tryz.func209,Tryz.ntmps209
  go_wp2
  go_ret
  exact⟨rfl,rfl⟩
 by_cases h6:s.data.toList=[102,105,110,100]
 ·obtain rfl:=bB h6
  clear h0 h1 h2 h3 h4 h5 h6
  go_enter Tryz.func209,Tryz.ntmps209
  go_wp2
  go_ret
  exact⟨rfl,rfl⟩
 by_cases h7:s.data.toList=[109,105,110]
 ·obtain rfl:=bB h7
  clear h0 h1 h2 h3 h4 h5 h6 h7
  go_enter Tryz.func209,Tryz.ntmps209
  go_wp2
  go_ret
  exact⟨rfl,rfl⟩
 by_cases h8:s.data.toList=[109,97,120]
 ·obtain rfl:=bB h8
  clear h0 h1 h2 h3 h4 h5 h6 h7 h8
  go_enter Tryz.func209,Tryz.ntmps209
  go_wp2
  go_ret
  exact⟨rfl,rfl⟩
 by_cases h9:s.data.toList=[105,102]
 ·obtain rfl:=bB h9
  clear h0 h1 h2 h3 h4 h5 h6 h7 h8 h9
  go_enter Tryz.func209,Tryz.ntmps209
  go_wp2
  go_ret
  exact⟨rfl,rfl⟩
 have e0:cO s.data.toList=0:=by simp[cO,h0,h1,h2,h3,h4,h5,h6,h7,h8,h9]
 rw[e0]
 replace h0:=cr h0
 replace h1:=cr h1
 replace h2:=cr h2
 replace h3:=cr h3
 replace h4:=cr h4
 replace h5:=cr h5
 replace h6:=cr h6
 replace h7:=cr h7
 replace h8:=cr h8
 replace h9:=cr h9
 clear e0
 go_enter Tryz.func209,Tryz.ntmps209
 go_wp2
 go_ret
 exact⟨rfl,rfl⟩
end Go.Proofs.YtlkjnefenialbaaGreatDoor
