/- Some of the texts. No conditions. -/
import Derived.Test.YtkdbagdiplpcfaaGreatDoorBunBH
import Derived.Test.YtkdbagdiplpcfaaGreatDoorBunBJ
import Derived.Test.YtkdbagdiplpcfaaGreatDoorBunBI

set_option linter.unusedSimpArgs false
set_option linter.unusedVariables false
set_option maxRecDepth 100000
set_option maxHeartbeats 16000000
namespace Go.Proofs.YtkdbagdiplpcfaaGreatDoor
open Go.Proofs.Tryz Go Go.RowKit Go.Lib Go.Shelf
section
variable {w w0 w1 w2:World} {X X1 X2:Dw} {S S1 S2:Sd} {Y Y1 Y2:Yw} {V V1 V2:Sv} {g gw i:Nat} {R:Sl} {L:List It} {mt:Mt}
theorem bx5 (h:Ws w0 w gw X S Y V R L mt) (C:Pl.PlI S V L mt i) (E:Pl.Lg_ V i) (hi:i<=49) (a:Aq) (I:a.In w0) (H:a.n<=60):
  Calls Tryz.prog 7 #[.pointer (some ⟨gw,0,none⟩),a.val] w (vz1 w0 gw i):=by
 obtain⟨k,A,n,c,m,v,s,x,y,z,K,kn,kc,l⟩:=a;have h1:=I.row;have h2:=I.fit;unfold Aq.val;simp only at H h1 h2 ⊢
 by_cases J:k=0
 ·subst J
  exact tx5 h C E hi A n c m v s x y z K kn kc l h1 h2 H
 by_cases O:k=1
 ·subst O
  exact uk5 h C E hi A n c m v s x y z K kn kc
 by_cases Q:k=2
 ·subst Q
  exact yx5 h C E hi A n c m v s x y z K kn kc
 by_cases U:k=3
 ·subst U
  exact vk5 h C E hi A n c m v s x y z K kn kc
 by_cases Z:k=4
 ·subst Z
  exact uy5 h C E hi A n c m v s x y z K kn kc
 by_cases k5:k=5
 ·subst k5
  exact xw5 h C E hi A n c m v s x y z K kn kc
 exact wv5 h C E hi A n c m v s x y z K kn kc k o_ H
theorem tv5 (C:Env w0) (h:WAt w0 w gw X S Y V):Ws w0 w gw X S Y V ⟨none,0,0⟩ [] ⟨0,0,0,0⟩:=
 ⟨h.at_,h.box,Row.nil_,fun j hj=>by simp[itc]at hj,h.low,h.out,h.gl,j_ C.base h.gl,h.bel⟩
def PlL (w w':World) (gw k:Nat):Prop:=∃X S Y V R L mt,Ws w w' gw X S Y V R L mt/\Pl.PlI S V L mt k/\Pl.Lg_ V k
theorem PlL.below {k:Nat} (h:PlL w w1 gw k) (C:Below w1.heap.size w1 w2):PlL w w2 gw k:=let ⟨X,S,Y,V,R,L,mt,a,b⟩:=h;⟨X,S,Y,V,R,L,mt,a.below C,b⟩
theorem PlL.bel {k:Nat} (h:PlL w w1 gw k):Below w.heap.size w w1:=let ⟨_,_,_,_,_,_,_,a,_⟩:=h;a.bel
end
section
variable {w w0 w1 w2:World} {X:Dw} {S:Sd} {Y:Yw} {V:Sv} {gw j k:Nat} {R:Sl} {L:List It} {mt:Mt}
def RsL (w w':World) (gw j:Nat):Prop:=∃X S Y V R L mt,Ws w w' gw X S Y V R L mt/\Pl.PlR S V L mt j
def RsZ (w w':World) (gw:Nat):Prop:=∃X S Y V R L mt j,Ws w w' gw X S Y V R L mt/\Pl.PlR S V L mt j/\V.tabs.length<=20/\∃hs:List Hvf,hs.map (·.hd)=V.tabs.map hdT/\pkOf hs=none
theorem RsL.below (h:RsL w w1 gw j) (C:Below w1.heap.size w1 w2):RsL w w2 gw j:=let ⟨X,S,Y,V,R,L,mt,a,b⟩:=h;⟨X,S,Y,V,R,L,mt,a.below C,b⟩
theorem RsZ.below (h:RsZ w w1 gw) (C:Below w1.heap.size w1 w2):RsZ w w2 gw:=let ⟨X,S,Y,V,R,L,mt,j,a,b⟩:=h;⟨X,S,Y,V,R,L,mt,j,a.below C,b⟩
theorem RsL.bel (h:RsL w w1 gw j):Below w.heap.size w w1:=let ⟨_,_,_,_,_,_,_,a,_⟩:=h;a.bel
theorem RsZ.bel (h:RsZ w w1 gw):Below w.heap.size w w1:=let ⟨_,_,_,_,_,_,_,_,a,_⟩:=h;a.bel
theorem RsL.le (h:RsL w w1 gw j):j<=32:=let ⟨_,_,_,_,_,_,_,_,a⟩:=h;a.le
theorem PlL.rest (h:PlL w w1 gw k) (C:k<=30):RsL w w1 gw 0:=let ⟨X,S,Y,V,R,L,mt,a,b,_⟩:=h;⟨X,S,Y,V,R,L,mt,a,Pl.PlR.of b C⟩
theorem ws_store (h:Ws w0 w gw X S Y V R L mt):w.cell? ⟨gw,1,none⟩=some (.pointer (some ⟨Y.s,0,none⟩)):=by
 have C:=h.box.cell 1;simpa only[gE0,gE1] using C
theorem RsL.step (h:RsL w0 w gw j):∃a,w.cell? ⟨gw,1,none⟩=some (.pointer (some ⟨a,0,none⟩))/\
  Calls prog 8 #[.pointer (some ⟨a,0,none⟩)] w fun e w'=>∃b,e=.returned (.tuple #[.bool b,.int .i64 0])/\((b=true/\RsL w0 w' gw (j+1))\/(b=false/\RsZ w0 w' gw)):=by
 obtain⟨X,S,Y,V,R,L,mt,h,C⟩:=h;refine⟨Y.s,ws_store h,?_⟩;have has:=C.asks;obtain⟨d1,d2,d3,d4⟩:=Pl.qq1 C.p;refine(tw4 h.at_ has.only C.g (C.mrg 0) d1 (by have:=has.load;omega)).mono ?_;rintro e w' ⟨hs,E,rfl,H⟩;obtain⟨S',V',b,e,q⟩:=C.step E d1;rw[e]at H ⊢;obtain⟨X1,Y1,h1,_⟩:=h.upd H;refine⟨b,rfl,?_⟩
 rcases q with ⟨rfl,rfl,rfl,q1,I⟩|⟨rfl,q⟩
 ·exact .inr ⟨rfl,X1,_,Y1,_,R,L,mt,j,h1,C,q1,hs,E,I⟩
 ·exact .inl ⟨rfl,X1,_,Y1,_,R,L,mt,h1,q⟩
theorem RsZ.again (h:RsZ w0 w gw):∃a,w.cell? ⟨gw,1,none⟩=some (.pointer (some ⟨a,0,none⟩))/\
  Calls prog 8 #[.pointer (some ⟨a,0,none⟩)] w fun e w'=>e=.returned (.tuple #[.bool false,.int .i64 0])/\RsZ w0 w' gw:=by
 obtain⟨X,S,Y,V,R,L,mt,j,h,C,E,hs,H,I⟩:=h;refine⟨Y.s,ws_store h,?_⟩;have has:=C.asks;obtain⟨d1,d2,d3,d4⟩:=Pl.qq1 C.p;refine(tw4 h.at_ has.only C.g (C.mrg 0) d1 (by have:=has.load;omega)).mono ?_;rintro e w' ⟨Q,O,rfl,J⟩;rw[Pl.step_again H O has.only E I]at J ⊢;obtain⟨X1,Y1,h1,_⟩:=h.upd J;exact⟨rfl,X1,S,Y1,V,R,L,mt,j,h1,C,E,hs,H,I⟩
theorem RsZ.stats (h:RsZ w0 w gw):∃a,w.cell? ⟨gw,1,none⟩=some (.pointer (some ⟨a,0,none⟩))/\
  Calls prog 10 #[.pointer (some ⟨a,0,none⟩)] w fun e w'=>∃x y z:Nat,∃c b,z<=20/\e=.returned (.agg #[.int .i64 (x:Int),.int .i64 (y:Int),.int .i64 (z:Int),.int .i64 c,.bool b])/\Below w.heap.size w w':=by
 obtain⟨X,S,Y,V,R,L,mt,j,h,H,C,_⟩:=h;refine⟨Y.s,ws_store h,?_⟩;refine(jj1 h.at_ o_).mono ?_;rintro e w' ⟨rfl,E⟩;exact⟨_,_,_,_,_,C,rfl,E⟩
theorem ws_same (h:Ws w0 w gw X S Y V R L mt) (C:Pl.PlR S V L mt j):Calls prog 9 #[.pointer (some ⟨gw,0,none⟩)] w fun e w'=>e=.returned (.bool true)/\Below w.heap.size w w':=by
 have has:=C.asks;exact by4 h C.st C.mt has.only C.len (by have:=has.tabs;omega) has.files
theorem RsL.same (h:RsL w0 w gw j):Calls prog 9 #[.pointer (some ⟨gw,0,none⟩)] w fun e w'=>e=.returned (.bool true)/\Below w.heap.size w w':=
 let ⟨_,_,_,_,_,_,_,a,b⟩:=h;ws_same a b
theorem RsZ.same (h:RsZ w0 w gw):Calls prog 9 #[.pointer (some ⟨gw,0,none⟩)] w fun e w'=>e=.returned (.bool true)/\Below w.heap.size w w':=
 let ⟨_,_,_,_,_,_,_,_,a,b,_⟩:=h;ws_same a b
end
end Go.Proofs.YtkdbagdiplpcfaaGreatDoor
