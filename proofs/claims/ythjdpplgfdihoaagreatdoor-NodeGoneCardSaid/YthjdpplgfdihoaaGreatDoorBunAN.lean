/- Texts ManA, DiskG, EditF, PlainMan, ItemM, ManB in one. No conditions. -/
import Derived.Test.YthjdpplgfdihoaaGreatDoorBunAK
import Derived.Lib.AppendIntMem
import Derived.Lib.ItoaLen
import Derived.Test.YthjdpplgfdihoaaGreatDoorBunAJ
import Derived.Test.YthjdpplgfdihoaaGreatDoorBunAI

set_option linter.unusedSimpArgs false
set_option linter.unusedVariables false
set_option maxRecDepth 100000
set_option maxHeartbeats 16000000
namespace Go.Proofs.YthjdpplgfdihoaaGreatDoor
section
open Go Go.RowKit Go.Shelf
structure Env (w:World):Prop where
 tab:Lib.TabIs Tryz.prog w "internal/strconv.uint64pow10" .u64 Lib.pow10Tab
 syn:∃t p,w.var? Tryz.prog "strconv.ErrSyntax" =some #[.iface t p]
 rng:∃t p,w.var? Tryz.prog "strconv.ErrRange" =some #[.iface t p]
noncomputable def gOf (n:String):Nat:=(Tryz.prog.globalNamed n).getD 0
noncomputable def NG:Nat:=max (gOf "internal/strconv.uint64pow10") (max (gOf "strconv.ErrSyntax") (gOf "strconv.ErrRange"))+1
theorem aj3 {w w':World} {G:List Nat} {n:String} {cs:Array Value} {g:Nat} (hg:Tryz.prog.globalNamed n=some g) (h:w.var? Tryz.prog n=some cs) (c:Chg G w w') (hG:g∉G):w'.var? Tryz.prog n=some cs:=by
 unfold World.var? at h ⊢;rw[hg]at h ⊢;simp only[Option.bind_some]at h ⊢;have hb:w'.heap[g]?=w.heap[g]?:=c.block g (by
  cases he:w.heap[g]? with
  |none=>rw[he]at h;cases h
  |some o=>exact(w_.1 he).1) hG
 rw[hb];exact h
theorem zy2 {n:String} (h:(Tryz.prog.globalNamed n).isSome=true):Tryz.prog.globalNamed n=some (gOf n):=by
 unfold gOf
 cases hg:Tryz.prog.globalNamed n with
 |none=>rw[hg]at h;cases h
 |some g=>rfl
theorem ay5:Tryz.prog.globalNamed "internal/strconv.uint64pow10" =some (gOf "internal/strconv.uint64pow10"):=zy2 (by kernel_rfl)
theorem az5:Tryz.prog.globalNamed "strconv.ErrSyntax" =some (gOf "strconv.ErrSyntax"):=zy2 (by kernel_rfl)
theorem cv5:Tryz.prog.globalNamed "strconv.ErrRange" =some (gOf "strconv.ErrRange"):=zy2 (by kernel_rfl)
theorem yw3 {w:World} {n:String} {cs:Array Value} {g:Nat} (hg:Tryz.prog.globalNamed n=some g) (h:w.var? Tryz.prog n=some cs):g < w.heap.size:=by
 unfold World.var? at h;rw[hg]at h;simp only[Option.bind_some]at h
 cases he:w.heap[g]? with
 |none=>rw[he]at h;cases h
 |some o=>exact(w_.1 he).1
theorem Env.base {w:World} (h:Env w):NG≤w.heap.size:=by
 obtain⟨h1,⟨t2,p2,h2⟩,⟨t3,p3,h3⟩⟩:=h;have l1:=yw3 ay5 h1;have l2:=yw3 az5 h2;have l3:=yw3 cv5 h3;unfold NG;omega
theorem Env.chg {w w':World} {G:List Nat} (h:Env w) (c:Chg G w w') (hG:∀g∈G,NG≤g):Env w':=by
 have e1:=ay5;have e2:=az5;have e3:=cv5;have l1:gOf "internal/strconv.uint64pow10" < NG:=by unfold NG;omega
 have l2:gOf "strconv.ErrSyntax" < NG:=by unfold NG;omega
 have l3:gOf "strconv.ErrRange" < NG:=by unfold NG;omega
 obtain⟨h1,⟨t2,p2,h2⟩,⟨t3,p3,h3⟩⟩:=h;exact⟨aj3 e1 h1 c (fun hm=>by have:=hG _ hm;omega),⟨t2,p2,aj3 e2 h2 c (fun hm=>by have:=hG _ hm;omega)⟩,⟨t3,p3,aj3 e3 h3 c (fun hm=>by have:=hG _ hm;omega)⟩⟩
theorem Env.below {w w':World} (h:Env w) (hb:Below w.heap.size w w'):Env w':=h.chg (Chg.of_below hb []) (fun g hg=>by cases hg)
theorem name_any (k:ByteArray) (hk:k.size≤1000) (n:Int) (hn:-9223372036854775808≤n∧n≤9223372036854775807) (w:World) (h:Env w):
  Calls Tryz.prog 83 #[.string k,.int .i64 n] w fun e w'=>e=.returned (.string (str (Mn.name k.data.toList n)))∧Below w.heap.size w w':=by
 by_cases hf:Mn.fits n=true
 ·have h1:1≤n∧n≤1073741824:=by simp[Mn.fits]at hf;omega
  obtain⟨h1,h2⟩:=h1;have e0:(n < 1)=False:=by simp;omega
  have e1:((1073741824:Int) < n)=False:=by simp;omega
  by_cases hkd:Mn.isKind k.data.toList=true
  ·have hnm:Mn.name k.data.toList n=k.data.toList++[46] ++Lib.itoa n:=by rw[Mn.name,if_pos (by simp[hf,hkd])]
   have hres:(str (Mn.name k.data.toList n))=k++⟨#[46]⟩++⟨(Lib.itoa n).toArray⟩:=by
    rw[hnm];apply ByteArray.ext;simp[str]
   rw[hres];have hit:=Any.strconv_Itoa Tryz.laysM171 n hn.1 hn.2 w h.tab;have hlen:=Lib.itoa_length_le n hn.1 hn.2;clear hnm hres h hf;have hk3:k=str Mn.kLog∨k=str Mn.kTab∨k=str Mn.kMan:=by
    simp only[Mn.isKind,bG_,beq_iff_eq]at hkd;rw[←bj1 k]
    rcases hkd with h|h|h<;>rw[h] <;>simp
   clear hkd
   rcases hk3 with rfl|rfl|rfl
   all_goals
    unfold str
    first|unfold Mn.kLog|unfold Mn.kTab|unfold Mn.kMan
    go_enter Tryz.func83,Tryz.ntmps83;go_wp2_with fail;refine hit.mono ?_;rintro e w1 ⟨rfl,q,os,rfl⟩;go_wp2;go_ret;exact⟨rfl,Lib.below_grow _ _ l_ _ _⟩
  ·have hnm:Mn.name k.data.toList n=[]:=by rw[Mn.name,if_neg (by simp[hkd])]
   have hes:str []=⟨#[]⟩:=rfl;rw[hnm,hes];have hb:∀l:List UInt8,k.data.toList≠l→(k.toList==l)=false:=fun l h=>by
    rw[ByteArray.toList_eq];simpa using h
   have hd:k.data.toList≠Mn.kLog∧k.data.toList≠Mn.kTab∧k.data.toList≠Mn.kMan:=by
    simpa [Mn.isKind] using hkd
   obtain⟨d1,d2,d3⟩:=hd;have b1:=hb _ d1;have b2:=hb _ d2;have b3:=hb _ d3;unfold Mn.kLog at b1;unfold Mn.kTab at b2;unfold Mn.kMan at b3;clear hb hnm hes d1 d2 d3 hkd hf h;go_enter Tryz.func83,Tryz.ntmps83;go_wp2;go_ret;exact⟨rfl,Below.refl _ _⟩
 ·have he:Mn.name k.data.toList n=[]:=by rw[Mn.name,if_neg (by simp[hf])]
  rw[he];have hes:str []=⟨#[]⟩:=rfl;rw[hes];have h1:n < 1∨1073741824 < n:=by simp[Mn.fits]at hf;omega
  clear he hf
  rcases h1 with h1|h1
  ·go_enter Tryz.func83,Tryz.ntmps83
   go_wp2;go_ret;exact⟨rfl,Below.refl _ _⟩
  ·have h2:(n < 1)=False:=by simp;omega
   go_enter Tryz.func83,Tryz.ntmps83;go_wp2;go_ret;exact⟨rfl,Below.refl _ _⟩
theorem jk4 (s:ByteArray) (hs:s.size≤1000000) (w:World) (h:Env w):
  Calls Tryz.prog 282 #[.string s] w fun e w'=>∃(v:Int) (ev:Value),e=.returned (.tuple #[.int .i64 v,ev])∧((Mn.okOf (Lib.atoiAll s.data.toList)=some v∧ev=.nilIface∧-9223372036854775808≤v∧v≤9223372036854775807)∨(Mn.okOf (Lib.atoiAll s.data.toList)=none∧∃t p,ev=.iface t p))∧Below w.heap.size w w':=by
 cases ha:Lib.atoiAll s.data.toList with
 |ok v=>
  refine(Any.strconv_Atoi_ok Tryz.laysC172 s (by omega) v ha w).mono ?_;rintro e w1 ⟨rfl,h1⟩;refine⟨_,_,rfl,.inl ⟨rfl,rfl,Lib.atoiAll_bounds ha⟩,?_⟩
  rcases h1 with rfl|⟨t,rfl⟩
  ·exact Below.refl _ _
  ·exact Joins.below_bytesWorld _ _ _ _ l_
 |range=>
  obtain⟨tp,p,hv⟩:=h.rng;refine(Any.strconv_Atoi_range_var Tryz.laysC172 s (by omega) ha tp p w hv).mono ?_;rintro e w1 ⟨N,rfl,_,_,hb⟩;exact⟨_,_,rfl,.inr ⟨rfl,_,_,rfl⟩,hb⟩
 |_=>
  obtain⟨tp,p,hv⟩:=h.syn;refine(Any.strconv_Atoi_syntax_var Tryz.laysC172 s (by omega) ha tp p w hv).mono ?_;rintro e w1 ⟨N,rfl,_,_,hb⟩;exact⟨_,_,rfl,.inr ⟨rfl,_,_,rfl⟩,hb⟩
def numV (o:Option Int):Value:=match o with
 |some v=>.tuple #[.int .i64 v,.bool true]
 |none=>.tuple #[.int .i64 0,.bool false]
theorem ly1 (s k:ByteArray) (hs:s.size≤100000) (hk:k.size≤1000) (w:World) (h:Env w):
  Calls Tryz.prog 226 #[.string s,.string k] w fun e w'=>e=.returned (numV (Mn.number s.data.toList k.data.toList))∧Below w.heap.size w w':=by
 have hcut:=fun p=>Any.strings_CutPrefix Tryz.lays103 s p w;have hat:=fun u hu w1 hw1=>jk4 u hu w1 hw1;have hpre:(k++⟨#[46]⟩).data.toList=k.data.toList++[46]:=by simp
 have hcut:=hcut (k++⟨#[46]⟩);rw[hpre]at hcut
 cases hp:Lib.hasPrefix s.data.toList (k.data.toList++[46]) with
 |false=>
  have hn:Mn.number s.data.toList k.data.toList=none:=by rw[Mn.number,if_neg (by simp[hp])]
  rw[hn,numV];have htr:Lib.trimPrefix s.data.toList (k.data.toList++[46])=s.data.toList:=by rw[Lib.trimPrefix,if_neg (by simp[hp])]
  rw[hp,htr]at hcut;have hss:(⟨s.data.toList.toArray⟩:ByteArray)=s:=by simp
  rw[hss]at hcut;have hat:=hat s (by omega) w h;clear hp hn htr hpre hss;go_enter Tryz.func226,Tryz.ntmps226;go_wp2_with fail;refine hcut.mono ?_;rintro e w1 ⟨rfl,rfl⟩;go_wp2_with fail;refine hat.mono ?_;rintro e w1 ⟨v,ev,rfl,hev,hb⟩;go_wp2;go_ret2;exact⟨rfl,hb⟩
 |true=>
  have htr:Lib.trimPrefix s.data.toList (k.data.toList++[46])=s.data.toList.drop (k.data.toList.length+1):=by rw[Lib.trimPrefix,if_pos hp];simp
  rw[hp,htr]at hcut;obtain⟨T,hT⟩:∃T:ByteArray,T=⟨(s.data.toList.drop (k.data.toList.length+1)).toArray⟩:=⟨_,rfl⟩;have hTl:T.data.toList=s.data.toList.drop (k.data.toList.length+1):=by rw[hT]
  have hTs:T.size≤1000000:=by
   have:T.size=T.data.toList.length:=by simp
   rw[this,hTl,B_];have:s.data.toList.length=s.size:=by simp
   omega
  rw[←hT]at hcut;have hat:=hat T hTs w h;rw[hTl]at hat;have hnum:Mn.number s.data.toList k.data.toList=match Mn.okOf (Lib.atoiAll (s.data.toList.drop (k.data.toList.length+1))) with
   |some v=>if Mn.name k.data.toList v=s.data.toList then some v else none
   |none=>none:=by rw[Mn.number,if_pos hp];first|done|rfl
  cases hok:Mn.okOf (Lib.atoiAll (s.data.toList.drop (k.data.toList.length+1))) with
  |none=>
   rw[hok]at hnum hat;simp only at hnum;rw[hnum,numV];have HAT:=H_ hat;clear hat hp htr hpre hT hTl hTs hnum hok;go_enter Tryz.func226,Tryz.ntmps226;go_wp2_with fail;refine hcut.mono ?_;rintro e w1 ⟨rfl,rfl⟩;go_wp2_with fail;refine HAT.out.mono ?_;rintro e w1 ⟨v,ev,rfl,hev,hb⟩
   rcases hev with ⟨h1,_⟩|⟨_,t,p,rfl⟩
   ·cases h1
   ·go_wp2
    go_ret2;exact⟨rfl,hb⟩
  |some v=>
   rw[hok]at hnum hat;simp only at hnum;have hw1:∀w1,Below w.heap.size w w1→Env w1:=fun w1 hb=>h.below hb;have hnm:=fun(hv:-9223372036854775808≤v∧v≤9223372036854775807) w1 hb=>name_any k hk v hv w1 (hw1 w1 hb)
   by_cases heq:Mn.name k.data.toList v=s.data.toList
   ·rw[if_pos heq]at hnum
    rw[hnum,numV];rw[heq,bj1]at hnm;have HAT:=H_ hat;have HNM:=H_ hnm;clear hat hp htr hpre hT hTl hTs hnum hok hnm heq hw1;go_enter Tryz.func226,Tryz.ntmps226;go_wp2_with fail;refine hcut.mono ?_;rintro e w0 ⟨rfl,hw0⟩;obtain rfl:=hw0.symm;go_wp2_with fail;refine HAT.out.mono ?_;rintro e w1 ⟨v',ev,rfl,hev,hb⟩
    rcases hev with ⟨h1,rfl,hv⟩|⟨h1,_⟩
    ·injection h1 with h1
     subst h1;go_wp2_with fail;refine(HNM.out hv w1 hb).mono ?_;rintro e w2 ⟨rfl,hb2⟩;have hb3:Below w.heap.size w w2:=hb.trans (hb2.mono hb.size);go_wp2;go_ret2;exact⟨rfl,hb3⟩
    ·cases h1
   ·rw[if_neg heq]at hnum
    rw[hnum,numV];have hne:((str (Mn.name k.data.toList v)).toList==s.toList)=false:=by
     rw[ByteArray.toList_eq,ByteArray.toList_eq,nz];simpa using heq
    generalize str (Mn.name k.data.toList v)=nm at *;have HAT:=H_ hat;have HNM:=H_ hnm;clear hat hp htr hpre hT hTl hTs hnum hok hnm heq hw1;go_enter Tryz.func226,Tryz.ntmps226;go_wp2_with fail;refine hcut.mono ?_;rintro e w0 ⟨rfl,hw0⟩;obtain rfl:=hw0.symm;go_wp2_with fail;refine HAT.out.mono ?_;rintro e w1 ⟨v',ev,rfl,hev,hb⟩
    rcases hev with ⟨h1,rfl,hv⟩|⟨h1,_⟩
    ·injection h1 with h1
     subst h1;go_wp2_with fail;refine(HNM.out hv w1 hb).mono ?_;rintro e w2 ⟨rfl,hb2⟩;have hb3:Below w.heap.size w w2:=hb.trans (hb2.mono hb.size);go_wp2;go_ret2;exact⟨rfl,hb3⟩
    ·cases h1
end
section
open Go Go.RowKit Go.Maps
theorem call2 (X:Dw) (S:Sd) (s u:ByteArray) (hs:s.size≤maxLen) (hu:u.size≤maxLen) (hw:S.Wf) (w:World) (h:DK w X S):
  Calls Tryz.prog 75 #[.pointer (some ⟨X.d,0,none⟩),.slice (some ⟨w.heap.size,0,none⟩) 2 2] (w.alloc (.cells #[.string s,.string u] 9)) fun e w'=>e=.returned (.int .i64 ((S.call [s.data.toList,u.data.toList]).2:Int))∧DK w' X (S.call [s.data.toList,u.data.toList]).1∧Chg [X.d] w w':=by
 have hb:Below w.heap.size w (w.alloc (.cells #[.string s,.string u] 9)):=b_ _ _;refine(nw2 X S (some ⟨w.heap.size,0,none⟩) 2 2 [s,u] (by omega) (by simp;exact⟨hs,hu⟩) hw.stop hw.fail _ (h.below hb) ?_).mono ?_
 ·exact(Row.new w #[.string s,.string u] 9 (n:=2) (size:=1) rfl).up (by simp)
 ·rintro e w' ⟨rfl,h1,h2⟩
  exact⟨rfl,h1,(Chg.of_below hb [X.d]).trans h2 (fun g hg=>.inl hg)⟩
theorem qq3 (X:Dw) (S:Sd) (s u:ByteArray) (hs:s.size≤maxLen) (hu:u.size≤maxLen) (hw:S.Wf) (hl:S.load≤1099511627776) (w:World) (h:DK w X S):
  Calls Tryz.prog 252 #[.pointer (some ⟨X.d,0,none⟩),.string s,.string u] w fun e w'=>e=.returned (.int .i64 ((S.rename s.data.toList u.data.toList).2:Int))∧Upd X w w' (S.rename s.data.toList u.data.toList).1:=by
 have hcall:=call2 X S s u hs hu hw w h;have hw1:=hw.call [s.data.toList,u.data.toList];have hld:=Sd.zy S [s.data.toList,u.data.toList];obtain⟨e1,e2,e3,e4,e5,_,_⟩:=Sd.jw S [s.data.toList,u.data.toList];have hsy:S.rename s.data.toList u.data.toList=if (S.call [s.data.toList,u.data.toList]).2≠0 then S.call [s.data.toList,u.data.toList] else if (S.names.get s.data.toList).isNone then ((S.call [s.data.toList,u.data.toList]).1,11)
  else if s.data.toList=u.data.toList then ((S.call [s.data.toList,u.data.toList]).1,0)
  else ({ (S.call [s.data.toList,u.data.toList]).1 with names:=Tn.go ⟨2,0,s.data.toList,u.data.toList⟩ S.names,turns:=S.turns++[⟨2,0,s.data.toList,u.data.toList⟩] },0):=rfl
 generalize S.call [s.data.toList,u.data.toList]=R at *;obtain⟨S1,er⟩:=R;simp only at *
 by_cases h0:er=0
 ·subst h0
  rw[if_neg (by simp)]at hsy;have hfd:=fun w1 h1=>find_any X S1 s hs w1 h1 hw1.names
  cases h3:S.names.get s.data.toList with
  |none=>
   simp only[h3,Option.isNone_none,if_true]at hsy;rw[hsy];simp only[e1,h3]at hfd;clear hsy h3 e1 e2 e3 e4 e5 hw1 hw h hld;go_enter Tryz.func252,Tryz.ntmps252;go_wp2_with fail;refine hcall.mono ?_;rintro e w1 ⟨rfl,h1,hc1⟩;go_wp2_with fail;refine(hfd w1 h1).mono ?_;rintro e w2 ⟨rfl,rfl⟩;go_wp2;go_ret;exact⟨rfl,Upd.called h1 hc1⟩
  |some i=>
   simp only[h3,bH_,ao_,if_false]at hsy
   by_cases hab:s=u
   ·subst hab
    rw[if_pos rfl]at hsy;rw[hsy];simp only[e1,h3]at hfd;clear hsy h3 e1 e2 e3 e4 e5 hw1 hw h hld;go_enter Tryz.func252,Tryz.ntmps252;go_wp2_with fail;refine hcall.mono ?_;rintro e w1 ⟨rfl,h1,hc1⟩;go_wp2_with fail;refine(hfd w1 h1).mono ?_;rintro e w2 ⟨rfl,rfl⟩;unfold ptrV;go_wp2;go_ret;exact⟨rfl,Upd.called h1 hc1⟩
   have hab':¬s.data.toList=u.data.toList:=fun e=>hab (by rw[←bj1 s,e,bj1]);rw[if_neg hab']at hsy;have hbeq:(s.toList==u.toList)=false:=by
    rw[ByteArray.toList_eq,ByteArray.toList_eq];simpa using hab'
   clear hab hab';rw[hsy,←e1,←e4];simp only[e1,h3]at hfd;have hml:S1.turns.length+1≤1099511627777:=by unfold Sd.load at hld hl;omega
   clear hsy h3 e1 e2 e3 e4 e5 hw h hld;go_enter Tryz.func252,Tryz.ntmps252;go_wp2_with fail;refine hcall.mono ?_;rintro e w1 ⟨rfl,h1,hc1⟩;go_wp2_with fail;refine(hfd w1 h1).mono ?_;rintro e w2 ⟨rfl,rfl⟩;unfold ptrV;go_wp2;have hbV:Below w1.heap.size w1 (w1.alloc (.cells #[.int .i64 2,.int .i64 0,.string s,.string u] 118)):=b_ _ _;have hbox:=BoxO.new w1 #[.int .i64 2,.int .i64 0,.string s,.string u] 118;have hlt:w1.heap.size < (w1.alloc (.cells #[.int .i64 2,.int .i64 0,.string s,.string u] 118)).heap.size:=by simp
   have h2:=h1.below hbV;have hup0:=Chg.of_below hbV X.foot;generalize w1.alloc (.cells #[.int .i64 2,.int .i64 0,.string s,.string u] 118)=V at *;have c0:=hbox.cell 0;have c1:=hbox.cell 1;have c2:=hbox.cell 2;have c3:=hbox.cell 3;have d2:=h2.box.cell 2;simp only[Dw.cells,gE0,gE1]at c0 c1 c2 c3 d2;have htb:=h1.lt;have hnamed:=H_ h2.names;have hsm:S1.names.length < maxLen:=by have:=hw1.most;unfold maxLen;omega
   generalize w1.heap.size=tb at *
   go_still_tail 5,(by kernel_rfl)
   change wpList _ _ _ _ _ (World.drew V);go_wp2_with fail;have hdo:=vk4 2 0 s.data.toList u.data.toList (by simpa using hs) (by simpa using hu) (by omega) X.nb S1.names.length S1.names V.drew hnamed.out.drew hsm (by omega);simp only[ny3,bj1]at hdo;refine hdo.mono ?_;rintro e w3 ⟨rfl,hn3,hc3⟩;have hc3':Chg [X.nb] V w3:=(Chg.refl [X.nb] V).drew.trans hc3 (fun g hg=>.inl hg);have h3:=h2.lk1 hn3 hc3';have hbox3:=hbox.chg hc3' (by simp;have:=htb X.nb (aj.2 (.inr (.inl rfl)));omega);have c0:=hbox3.cell 0;have c1:=hbox3.cell 1;have c2:=hbox3.cell 2;have c3:=hbox3.cell 3;have d4:=h3.box.cell 4;have f4:=h3.box.free 4;have hxd:=h3.box.lt;obtain⟨tA,tc,htv,_,_,_⟩:=dw h3.turns;simp only[Dw.cells,gE0,gE1]at c0 c1 c2 c3 d4;rw[htv]at d4;clear d2 hnamed hdo hn3;have hrow4:=own_base h3.turns z_;rw[htv]at hrow4;have hpre:=fun(o:Obj) (w4:World) (hg:((w3.alloc o).drew).grownBy w4 (Value.slice tA S1.turns.length tc).ownBlock)=>(⟨(dw1 h3 (by rw[htv];exact hg)).cell 4,(dw1 h3 (by rw[htv];exact hg)).free 4⟩:w4.cell? ⟨X.d,4,none⟩=_∧w4.frozen? ⟨X.d,4,none⟩=false);have hpost:=fun(o:Obj) (w4:World) (v:Value) (hg:((w3.alloc o).drew).grownBy w4 (Value.slice tA S1.turns.length tc).ownBlock) hown hob=>jz3 (o:=o) (w4:=w4) (v:=v) h3 ⟨2,0,s.data.toList,u.data.toList⟩ (by rw[htv];exact hg) hown (by rw[htv];exact hob);simp only[zk,bj1]at hpost;have HPO:=H_ hpost;have HPR:=H_ hpre;have htr:=fun(w5:World) (S5:Sd) (h:Upd X w3 w5 S5)=>Upd.after hc1 (Upd.trans rfl (hup0.trans (hc3'.mono (fun g hg=>.inl (by rw[c_.1 hg];exact aj.2 (.inr (.inl rfl))):∀g∈[X.nb],g∈X.foot∨_)) (fun g hg=>.inl hg)) (fun g hg=>.inl hg) h);have HTR:=H_ htr;clear hpost hpre htr;obtain⟨i0,hi0,hz0,hz1,hz2⟩:=info_parts xy1;go_wp2
   go_region_law (refine zj1 rfl (.tmp 39) (.tmp 41) _ rfl 0 118 i0 _ 4 48 Tryz.underlying92 hi0 hz0 hz1 hz2 rfl (by omega) z_ (.slice tA S1.turns.length tc) S1.turns.length _ rfl (hrow4.alloc _).drew _ (some ⟨w3.heap.size,0,none⟩) 1 1 (by omega) [.int .i64 2,.int .i64 0,.string s,.string u] rfl (Row.new w3 #[.int .i64 2,.int .i64 0,.string s,.string u] 118 (n:=1) (size:=4) rfl).drew (by simp[Value.oneCell']) (S1.turns.length+1) _ rfl rfl (by unfold maxLen;omega) (by omega) ?_;intro A4 c4 w4 hown4 hg4 _ _ hob4;obtain⟨q4,q5⟩:=HPR.out _ _ hg4;have HO:=H_ (HTR.out _ _ (HPO.out _ _ _ hg4 hown4 hob4));clear hg4 hown4 hob4;simp only[Dw.cells,gE0,gE1]at q4)
   all_goals
    go_wp2;go_ret;exact⟨rfl,HO.out⟩
 ·have hne:=neq0 h0
  rw[if_pos h0]at hsy;rw[hsy];clear hsy e1 e2 e3 e4 e5 h0 hld;go_enter Tryz.func252,Tryz.ntmps252;go_wp2_with fail;refine hcall.mono ?_;rintro e w1 ⟨rfl,h1,hc1⟩;go_wp2;go_ret;exact⟨rfl,Upd.called h1 hc1⟩
end
section
open Go.RowKit
structure Bv where
 g:Nat
 f:Nat
 c:Nat
 a:Nat
 l:Nat
end
section
open Go
namespace Sd
variable {d:Sd}
theorem dy1 (d:Sd) (s:List UInt8):(d.create s).1.load≤d.load+2:=by
 have h:=zy d [s];obtain⟨e1,e2,e3,e4,_⟩:=jw d [s];unfold create
 dsimp only
 split
 ·omega
 ·split
  ·exact h_ (bk_ h) (am_ _ _)
  ·split
   ·exact h_ (bk_ h) (am_ _ _)
   ·simp only[load,e_,ah_]
    omega
theorem av1 (d:Sd) (s b:List UInt8):(d.append s b).1.load=d.load:=by
 have h:=zy d [s];obtain⟨e1,e2,e3,e4,_⟩:=jw d [s];unfold append
 dsimp only
 split
 ·exact h
 ·split
  ·exact h
  ·split
   ·exact h
   ·split
    ·exact h
    ·simp[load,e4]
theorem bw1 (d:Sd) (s:List UInt8):(d.sync s).1.load=d.load:=by
 have h:=zy d [s];obtain⟨e1,e2,e3,e4,_⟩:=jw d [s];unfold sync
 dsimp only
 split
 ·exact h
 ·split
  ·exact h
  ·simp[load,e4]
theorem yv1 (d:Sd) (a b:List UInt8):(d.rename a b).1.load≤d.load+1:=by
 have h:=zy d [a,b];obtain⟨e1,e2,e3,e4,_⟩:=jw d [a,b];unfold rename
 dsimp only
 split
 ·omega
 ·split
  ·exact h_ (bk_ h) (am_ _ _)
  ·split
   ·exact h_ (bk_ h) (am_ _ _)
   ·simp only[load,e_,ah_,e3]
    omega
theorem bq1 (d:Sd) (s:List UInt8):(d.remove s).1.load≤d.load+1:=by
 have h:=zy d [s];obtain⟨e1,e2,e3,e4,_⟩:=jw d [s];unfold remove
 dsimp only
 split
 ·omega
 ·split
  ·exact h_ (bk_ h) (am_ _ _)
  ·simp only[load,e_,ah_,e3]
   omega
theorem yx (d:Sd):(d.ay).1.load≤d.load:=by
 have h:=zy d [];obtain⟨e1,e2,e3,e4,_⟩:=jw d [];unfold ay
 dsimp only
 split
 ·omega
 ·simp[load,e3]
def write (d:Sd) (s b:List UInt8):Sd×Nat:=
 if (d.create s).2≠0 then d.create s
 else if ((d.create s).1.append s b).2≠0 then (d.create s).1.append s b
 else ((d.create s).1.append s b).1.sync s
theorem Wf.write {d:Sd} (h:d.Wf) (s b:List UInt8):(d.write s b).1.Wf:=by
 unfold Sd.write;split
 ·exact h.create s
 ·split
  ·exact(h.create s).append s b
  ·exact((h.create s).append s b).sync s
theorem yj (d:Sd) (s b:List UInt8):(d.write s b).1.load≤d.load+2:=by
 have h1:=dy1 d s;have h2:=av1 (d.create s).1 s b;have h3:=bw1 ((d.create s).1.append s b).1 s;unfold write;split
 ·omega
 ·split
  ·omega
  ·omega
end Sd
structure Ms where
 name:List UInt8
 v:Bv
 count:Nat
 broken:Bool
namespace Mn
def greatest (l:List (List UInt8)) (kind:List UInt8):Int:=l.foldl (fun m s=>max m ((number s kind).getD 0)) 0
theorem mj2 {l:List (List UInt8)} {k:Nat} (h:k < l.length) (kind:List UInt8):greatest (l.take (k+1)) kind=max (greatest (l.take k) kind) ((number l[k] kind).getD 0):=by
 unfold greatest;rw[o_ h,bn_];rfl
theorem aq2 {s kind:List UInt8} {v:Int} (h:number s kind=some v) (hs:s≠[]):1≤v∧v≤1073741824:=by
 have h1:=bv3 h
 by_cases hf:(fits v&&isKind kind)=true
 ·simp[fits]at hf;omega
 ·rw[name,if_neg hf]at h1;exact absurd h1.symm hs
end Mn
namespace Mw
open Mn
def kCur:List UInt8:=[99,117,114,114,101,110,116]
def jk:List UInt8:=[99,117,114,114,101,110,116,46,116,109,112]
def headB (n:Int):List UInt8:=Fr.put 8 (Pn.put n.toNat)
def sweep (nm:List UInt8):List (List UInt8)→Sd→Sd
 |[],d=>d
 |o::r,d=>sweep nm r (if (number o kMan).isSome&&!(o==nm) then (d.remove o).1 else d)
end Mw
end
section
open Go Go.RowKit Go.Lib
theorem nz3 (n:Nat) (hn:n < 18446744073709551616):
  bits .xor .i64 ((n:Int) / 2) (wrap64 (-(wrap64 (bits .and .u64 (n:Int) 1))))=mx1 n:=by
 have h1:bits .and .u64 (n:Int) 1=((n % 2:Nat):Int):=by
  have:=gy2 (BitVec.ofNat 64 n) (BitVec.ofNat 64 1);rw[BitVec.toNat_ofNat,BitVec.toNat_ofNat,X_ hn,BitVec.toNat_and,BitVec.toNat_ofNat,BitVec.toNat_ofNat,X_ hn]at this;rw[show (1:Int)=((1 % 2 ^ 64:Nat):Int) from rfl,this]
  congr 1
  exact Nat.and_one_is_mod n
 have h2:∀a b:Int,bits .xor .i64 a b=IntKind.i64.wrap ((BitVec.ofInt 64 a ^^^ BitVec.ofInt 64 b).toNat:Int):=fun _ _=>rfl;rw[h1,h2];unfold mx1;rw[IntKind.wrap_i64]
 rcases Nat.mod_two_eq_zero_or_one n with h0|h0
 ·have e2:wrap64 (-(wrap64 ((0:Nat):Int)))=0:=by simp[wrap64]
  have e3:(n:Int) / 2=((n / 2:Nat):Int):=by omega
  rw[if_pos h0,h0,e2,e3,show BitVec.ofInt 64 0=0#64 from rfl,BitVec.xor_zero,BitVec.ofInt_natCast,BitVec.toNat_ofNat];omega
 ·have e2:wrap64 (-(wrap64 ((1:Nat):Int)))=-1:=by simp[wrap64]
  have e3:(n:Int) / 2=((n / 2:Nat):Int):=by omega
  rw[if_neg (by omega),h0,e2,e3,show BitVec.ofInt 64 (-1)=BitVec.allOnes 64 from by decide,BitVec.xor_allOnes,BitVec.toNat_not,BitVec.ofInt_natCast,BitVec.toNat_ofNat];omega
theorem mj3 (n:Nat) (hn:n < 18446744073709551616) (w:World):
  Calls Tryz.prog 335 #[.int .u64 (n:Int)] w fun e w'=>e=.returned (.int .i64 (mx1 n))∧w'=w:=by
 have HS:=H_ (nz3 n hn);go_enter Tryz.func335,Tryz.ntmps335;go_wp2;rw[HS.out];go_ret;exact⟨rfl,rfl⟩
def ww4 (B0 N:Nat) (w:World) (R:It×List UInt8×Nat) (e:Ending) (w':World):Prop:=∃A' n' c',e=.returned (.tuple #[R.1.val,.slice A' n' c',.int .i64 (R.2.2:Int)])∧Row B0 w A' n' 1 (bts R.2.1)∧n'≤N∧n'≤c'∧c'≤maxLen∧Below w.heap.size w w'
def a3 (ns:List Nat):List Value:=[.int .u64 (ns.getD 0 0:Nat),.int .u64 (ns.getD 1 0:Nat),.int .u64 (ns.getD 2 0:Nat)]
theorem fk5 (ns:List Nat) (x:Nat) (h:ns.length < 3):(a3 ns).set ns.length (.int .u64 (x:Int))=a3 (ns++[x]):=by
 match ns,h with
 |[],_=>rfl
 |[a],_=>rfl
 |[a,b],_=>rfl
theorem dy5 {w:World} {g:Nat} {cs:List Value} (x:It) (h:BoxO w 36 g cs) (hl:cs.length=5):BoxO (((((w.setCell ⟨g,0,none⟩ (.int .i64 x.s)).setCell ⟨g,1,none⟩ (.int .i64 x.k)).setCell ⟨g,2,none⟩ (.int .u64 (x.t:Int))).setCell ⟨g,3,none⟩ (.int .u64 (x.v:Int))).setCell ⟨g,4,none⟩ (.int .i64 x.x)) 36 g x.cells∧Chg [g] w (((((w.setCell ⟨g,0,none⟩ (.int .i64 x.s)).setCell ⟨g,1,none⟩ (.int .i64 x.k)).setCell ⟨g,2,none⟩ (.int .u64 (x.t:Int))).setCell ⟨g,3,none⟩ (.int .u64 (x.v:Int))).setCell ⟨g,4,none⟩ (.int .i64 x.x)):=by
 obtain⟨a0,a1,a2,a3,a4,rfl⟩:∃a0 a1 a2 a3 a4,cs=[a0,a1,a2,a3,a4]:=by
  match cs,hl with
  |[a0,a1,a2,a3,a4],_=>exact⟨_,_,_,_,_,rfl⟩
 exact⟨((((h.store 0 _).store 1 _).store 2 _).store 3 _).store 4 _,(((((Chg.refl _ w).setCell _ (.inl (by simp))).setCell _ (.inl (by simp))).setCell _ (.inl (by simp))).setCell _ (.inl (by simp))).setCell _ (.inl (by simp))⟩
theorem yw1 {w:World} {g:Nat} {cs:List Value} (h:BoxO w 36 g cs) (hl:cs.length=5):∃a0 a1 a2 a3 a4,w.cell? ⟨g,0,none⟩=some a0∧w.cell? ⟨g,1,none⟩=some a1∧w.cell? ⟨g,2,none⟩=some a2∧w.cell? ⟨g,3,none⟩=some a3∧w.cell? ⟨g,4,none⟩=some a4:=by
 match cs,hl with
 |[a0,a1,a2,a3,a4],_=>exact⟨a0,a1,a2,a3,a4,h.cell 0,h.cell 1,h.cell 2,h.cell 3,h.cell 4⟩
theorem jy5 {w:World} {g k:Nat} {cs:List Value} (h:BoxO w 392 g cs) (hl:cs.length=3) (hk:k < 3):∃u,w.cell? ⟨g,k,none⟩=some u:=by
 rw[h.cell];exact⟨_,j_ (by omega)⟩
theorem vy4:∀{k:Nat} {b:List UInt8} {ns:List Nat} {r:List UInt8},It.tks k b=some (ns,r)→∀n∈ns,n < 18446744073709551616
 |0,b,ns,r,h=>by
  obtain⟨rfl,_⟩:=It.ny1 h;simp
 |k+1,b,ns,r,h=>by
  obtain⟨ms,q,h1,_,rfl,_⟩:=It.gq1 (n:=0) (q:=[]) h;intro n hn
  rcases q_.1 hn with h2|h2
  ·exact vy4 h1 n h2
  ·rw[c_.1 h2]
   exact Pn.gz4 q
theorem cy5 {b:List UInt8} {ns:List Nat} {r:List UInt8} (h:It.tks 3 b=some (ns,r)):ns.getD 2 0 < 18446744073709551616:=by
 have h1:=It.sj1 h;have h2:2 < ns.length:=by omega
 rw[C_,j_ h2];exact vy4 h _ (v_ h2)
theorem kz26 {P S a oi v} (h:Hv P S a oi v:=by intro w hSw;(obtain⟨d0,d1⟩:=KC.out w hSw.1);go_simp;try (with_reducible rfl)):Hv P S a oi v:=h
theorem kz27 {P S a oi v} (h:Hv P S a oi v:=by intro w hSw;skip;go_simp;try (with_reducible rfl)):Hv P S a oi v:=h
theorem kz28 {P S a oi v} (h:Hv P S a oi v:=by intro w hSw;(obtain⟨d0,d1,d2⟩:=KZ.out w hSw.1);go_simp;try (with_reducible rfl)):Hv P S a oi v:=h
theorem one_any (A:Option Addr) (N c:Nat) (b:List UInt8) (w:World) (hN:N≤1000000) (hNc:N≤c) (hcm:c≤maxLen) (B0:Nat) (hB0:B0≤w.heap.size) (hrB:Row B0 w A N 1 (bts b)):
  Calls Tryz.prog 296 #[.slice A N c] w (ww4 B0 N w (It.take1 b)):=by
 have hr:=hrB.up hB0;have hln:=hr.xk;have hU:=b_ w (.cells #[.int .i64 0,.int .i64 0,.int .u64 0,.int .u64 0,.int .i64 0] 36);have hbx:BoxO (w.alloc (.cells #[.int .i64 0,.int .i64 0,.int .u64 0,.int .u64 0,.int .i64 0] 36)) 36 w.heap.size [.int .i64 0,.int .i64 0,.int .u64 0,.int .u64 0,.int .i64 0]:=BoxO.new w _ 36
 by_cases h2:b.length < 2
 ·have hn2:(N:Int) < 2:=by omega
  have hR:It.take1 b=(It.vz1,[],4):=by rw[It.kj2,if_pos h2]
  rw[hR];have c0:=hbx.c0;have c1:=hbx.c1;have c2:=hbx.c2;have c3:=hbx.c3;have c4:=hbx.c4;have f0:=hbx.free 0;have f1:=hbx.free 1;have f2:=hbx.free 2;have f3:=hbx.free 3;have f4:=hbx.free 4;have HB:=H_ hU;clear hbx hU hR;go_enter Tryz.func296,Tryz.ntmps296;go_wp2;refine bodyPost_ret (v:=.tuple #[It.vz1.val,.slice none 0 0,.int .i64 4]) (by simp[results,go_sem,It.val,It.vz1, *]) rfl ⟨none,0,0,rfl,Row.nil_,by omega,by omega,by omega,?_⟩;exact HB.out
 ·have hn2:((N:Int) < 2)=False:=eq_false (by omega)
  obtain⟨p,hl0,hA,hpb,d0⟩:=hr.bt (k:=0) (by omega);obtain⟨p',hl1,hA',_,d1⟩:=hr.bt (k:=1) (by omega);rw[hA]at hA';injection hA' with hA';subst hA' hA;have hu0:Fr.u b 0=(b[0]).toNat:=by simp[Fr.u,C_,j_ hl0]
  have hu1:Fr.u b 1=(b[1]).toNat:=by simp[Fr.u,C_,j_ hl1]
  rw[←hu0]at d0;rw[←hu1]at d1;obtain⟨s,hs⟩:=n_ (Fr.u b 0);obtain⟨kd,hkd⟩:=n_ (Fr.u b 1);rw[←hs]at d0;rw[←hkd]at d1;have hs8:s < 256:=by rw[hs,hu0];exact(b[0]).toNat_lt
  have hk8:kd < 256:=by rw[hkd,hu1];exact(b[1]).toNat_lt
  have hws:IntKind.i64.wrap (s:Int)=(s:Int):=F_ _ (by omega);have hwk:IntKind.i64.wrap (kd:Int)=(kd:Int):=F_ _ (by omega);rw[show p.add 0=p from rfl]at d0;rw[show p.add 1=⟨p.block,p.off+1,none⟩ from rfl]at d1;have hkc:∀w',Chg [w.heap.size] (w.alloc (.cells #[.int .i64 0,.int .i64 0,.int .u64 0,.int .u64 0,.int .i64 0] 36)) w'→w'.cell? p=some (.int .u8 (s:Int))∧w'.cell? ⟨p.block,p.off+1,none⟩=some (.int .u8 (kd:Int)):=fun w' hc=>by
   have hb:=hU.trans (hc.below hU.size (fun g hg=>by rw[c_.1 hg];exact x_ _));exact⟨(hb.cell (p:=p) hpb).trans d0,(hb.cell (p:=⟨p.block,p.off+1,none⟩) hpb).trans d1⟩
  have hr2:=vw1 hr (s:=2) (by omega) (A':=some (p.add 2)) (fun _=>rfl);obtain⟨V,hV⟩:=n_ (w.alloc (.cells #[.int .i64 0,.int .i64 0,.int .u64 0,.int .u64 0,.int .i64 0] 36));rw[←hV]at hkc hU hbx;have KC:=H_ hkc;have HU:=H_ hU;have HBX:=H_ hbx;have HS:=H_ (d_ hs hkd);have HR:=H_ hrB;have hVs:=hV.symm;obtain⟨A2,hA2⟩:∃A2,(if c=2 then some p else some ⟨p.block,p.off+2,none⟩)=A2:=⟨_,rfl⟩;have hc2:2≤c:=by omega
  have hN0:0 < N:=by omega
  have hN1:1 < N:=by omega
  have hN0i:(0:Int) < (N:Int):=by omega
  have hN1i:(1:Int) < (N:Int):=by omega
  have hN2:2≤N:=by omega
  have hN2i:(2:Int)≤(N:Int):=by omega
  clear hkc hU hbx hs hkd hr hV hr2 d0 d1 hu0 hu1;go_enter Tryz.func296,Tryz.ntmps296;go_wp2_with fail;refine wp_region_held_drew (S:=fun w'=>Chg [w.heap.size] V w'∧∃cs:List Value,cs.length=5∧BoxO w' 36 w.heap.size cs) rfl ⟨(Chg.refl _ V).drew,_,rfl,HBX.out.drew⟩ (fun hSw=>?_);refine w_v 0 hSw ?_ (k:=kz26);go_simp;refine w_v 1 hSw ?_ (k:=kz26);go_simp;refine w_v 2 hSw ?_ (k:=kz26);go_simp;refine w_v 3 hSw ?_ (k:=kz26);go_simp;refine w_v 4 hSw ?_ (k:=kz26);go_simp;refine w_v 5 hSw ?_ (k:=kz26);go_simp;refine w_v 6 hSw ?_ (k:=kz26);go_simp;refine w_v 7 hSw ?_ (k:=kz26);go_simp;refine w_v 8 hSw ?_ (k:=kz26);go_simp;refine w_r 9 fun K hK=>?_
  (obtain⟨cs,hcl,hcb⟩:=hSw.2;obtain⟨_,_,_,_,_,q0,q1,q2,q3,q4⟩:=yw1 hcb hcl;have z0:=hcb.free 0)
  go_simp;refine hK.out _ _ ⟨hSw.1.setCell _ (.inl (by simp)),_,by rw[au_];exact hcl,hcb.store 0 _⟩ ?_;clear hSw hK K;intro hSw;go_simp;refine w_v 10 hSw ?_ (k:=kz26);go_simp;refine w_r 11 fun K hK=>?_
  (obtain⟨cs,hcl,hcb⟩:=hSw.2;obtain⟨_,_,_,_,_,q0,q1,q2,q3,q4⟩:=yw1 hcb hcl;have z0:=hcb.free 1)
  go_simp;refine hK.out _ _ ⟨hSw.1.setCell _ (.inl (by simp)),_,by rw[au_];exact hcl,hcb.store 1 _⟩ ?_;clear hSw hK K;intro hSw;go_simp;refine wpAnyH_done (by kernel_rfl) ?_ _;clear hSw KC;have hbW:BoxO ((V.setCell ⟨w.heap.size,0,none⟩ (.int .i64 (s:Int))).setCell ⟨w.heap.size,1,none⟩ (.int .i64 (kd:Int))).drew 36 w.heap.size [.int .i64 (s:Int),.int .i64 (kd:Int),.int .u64 0,.int .u64 0,.int .i64 0]:=((HBX.out.store 0 _).store 1 _).drew;have hcW:Chg [w.heap.size] V ((V.setCell ⟨w.heap.size,0,none⟩ (.int .i64 (s:Int))).setCell ⟨w.heap.size,1,none⟩ (.int .i64 (kd:Int))).drew:=(((Chg.refl _ V).setCell _ (.inl (by simp))).setCell _ (.inl (by simp))).drew;have hlw:w.heap.size < V.heap.size:=HBX.out.lt;obtain⟨W,hW⟩:=n_ (((V.setCell ⟨w.heap.size,0,none⟩ (.int .i64 (s:Int))).setCell ⟨w.heap.size,1,none⟩ (.int .i64 (kd:Int))).drew);rw[←hW]at hbW hcW ⊢;have hUb:=HU.out.trans (hcW.below HU.out.size (fun g hg=>by rw[c_.1 hg];exact x_ _));have hr2:=vw1 HR.out (s:=2) hN2 (A':=A2) (fun hlt=>by rw[←hA2,if_neg (by omega)];rfl);have hUa:=hUb.alloc hUb.size (.cells #[.int .u64 0,.int .u64 0,.int .u64 0] 392);have hba:=BoxO.new W #[.int .u64 0,.int .u64 0,.int .u64 0] 392;have hbg:=hbW.alloc (.cells #[.int .u64 0,.int .u64 0,.int .u64 0] 392);have hgl:=hbW.lt;obtain⟨Y,hY⟩:=n_ (W.alloc (.cells #[.int .u64 0,.int .u64 0,.int .u64 0] 392));rw[←hY]at hUa hba hbg;have hYs:=hY.symm;have hne:w.heap.size≠W.heap.size:=by omega
  have hge:w.heap.size≤W.heap.size:=by omega
  have HUA:=H_ hUa;have HBA:=H_ (show BoxO Y 392 W.heap.size (a3 []) from hba);have HBG:=H_ hbg;have HR2:=H_ hr2;have HNE:=H_ (d_ hne hge);clear hbW hcW hW hUb hr2 hUa hba hbg hY hlw hgl hVs HBX HU HR hne hge hpb hl0 hl1;go_wp2_with fail
  go_loopw [0,26] (fun bv i wr=>∃(k n:Nat) (A4:Option Addr) (c4:Nat) (ns:List Nat) (r:List UInt8),k≤3∧bv=.slice A4 n c4∧i=.int .i64 (k:Int)∧Hid (It.tks k (b.drop 2)=some (ns,r)∧Row B0 w A4 n 1 (bts r)∧n≤c4∧c4≤maxLen∧n≤N∧BoxO wr 392 W.heap.size (a3 ns))∧Chg [W.heap.size] Y wr) (fun _ i _=>3 - (intOf i).toNat)
  case atStart=>exact⟨0,N - 2,A2,c - 2,[],b.drop 2,by omega,by simp,rfl,H_ ⟨rfl,HR2.out,by omega,by unfold maxLen at *;omega,by omega,HBA.out⟩,Chg.refl _ _⟩
  case round=>
   obtain⟨k,n,A4,c4,ns,r,hk3,rfl,rfl,HK,hc⟩:=hrel;have hbw:=HUA.out.trans (hc.below HUA.out.size (fun g hg=>by rw[c_.1 hg];exact HNE.out.2));have hbg:=HBG.out.chg hc (by simpa using HNE.out.1);have hnsl:=It.sj1 HK.out.1
   by_cases hk:k < 3
   ·have hki:(k:Int) < 3:=by omega
    have hwk':IntKind.i64.wrap (k:Int)=(k:Int):=F_ _ (by omega);have hrr:=((HK.out.2.1.up hB0).below hbw).up hbw.size;have hrl:=hrr.xk;have htk:=take_any A4 n c4 r wr (by have:=HK.out.2.2.2.2.1;omega) hrr;have hsz:=Pn.take_size (l:=r);obtain⟨x,hx⟩:=n_ ((Pn.take r).1);obtain⟨sz,hsze⟩:=n_ ((Pn.take r).2.1);obtain⟨er,her⟩:=n_ ((Pn.take r).2.2);rw[←hx,←hsze,←her]at htk;rw[←her,←hsze]at hsz;have HTK:=H_ htk;have HX:=H_ hx;have HSZ:=H_ hsze;have HER:=H_ her
    by_cases he:er=0
    ·subst he
     have hszl:=hsz rfl;have htks:=It.lj4 HK.out.1 HER.out.symm;obtain⟨A5,hA5⟩:∃A5,(if c4=sz then A4 else Option.map (fun x=>x.add sz) A4)=A5:=⟨_,rfl⟩;have hr5:=vw1 HK.out.2.1 (s:=sz) (by omega) (A':=A5) (fun hlt2=>by rw[←hA5,if_neg (by have:=HK.out.2.2.1;omega)]);rw[←HX.out,←HSZ.out]at htks;have hszn:sz≤n:=by omega
     have hszni:(sz:Int)≤(n:Int):=by omega
     have hszc:sz≤c4:=by have:=HK.out.2.2.1;omega
     have hszci:(sz:Int)≤(c4:Int):=by omega
     have HT:=H_ (d_ htks hr5);have HCB:=H_ (d_ hc hbw);clear htk hsz htks hr5 hrr hx hsze her hbg hbw hnsl;go_wp2_with fail;refine HTK.out.mono ?_;rintro e w1 ⟨rfl,hw1⟩;subst hw1;clear HTK;go_wp2_with fail;refine wp_region_held_drew (S:=fun w'=>Chg [W.heap.size] Y w'∧∃cs:List Value,cs.length=3∧BoxO w' 392 W.heap.size cs) rfl ⟨HCB.out.1.drew,_,rfl,HK.out.2.2.2.2.2.drew⟩ (fun hSw=>?_);refine w_v 0 hSw ?_ (k:=kz27);go_simp;refine w_v 1 hSw ?_ (k:=kz27);go_simp;refine w_v 2 hSw ?_ (k:=kz27);go_simp;refine w_v 3 hSw ?_ (k:=kz27);go_simp;refine w_v 4 hSw ?_ (k:=kz27);go_simp;refine w_v 5 hSw ?_ (k:=kz27);go_simp;refine w_r 6 fun K hK=>?_
     (obtain⟨cs,hcl,hcb⟩:=hSw.2;obtain⟨_,q0⟩:=jy5 hcb hcl hk;have z0:=hcb.free k)
     go_simp;refine hK.out _ _ ⟨hSw.1.setCell _ (.inl (by simp)),_,by rw[au_];exact hcl,hcb.store k _⟩ ?_;clear hSw hK K;intro hSw;go_simp;refine w_v 7 hSw ?_ (k:=kz27);go_simp;refine wpAnyH_done (by kernel_rfl) ?_ _;have hc3:Chg [W.heap.size] Y (wr.setCell ⟨W.heap.size,k,none⟩ (.int .u64 (x:Int))).drew:=(HCB.out.1.setCell _ (.inl (by simp))).drew;have hb3:=(HK.out.2.2.2.2.2.store k (.int .u64 (x:Int))).drew;rw[←It.sj1 HK.out.1,fk5 ns x (by rw[It.sj1 HK.out.1];exact hk),It.sj1 HK.out.1]at hb3;have HF:=H_ (d_ hb3 hc3);clear hSw hb3 hc3;go_wp2;go_roundw
     case rel=>exact⟨k+1,n - sz,A5,c4 - sz,ns++[x],r.drop sz,by omega,by simp[hA5],by go_num,H_ ⟨HT.out.1,HT.out.2,by have:=HK.out.2.2.1;omega,by have:=HK.out.2.2.2.1;omega,by have:=HK.out.2.2.2.2.1;omega,HF.out.1⟩,HF.out.2⟩
     case measure=>simp[intOf];omega
    ·have hR:It.take1 b=(It.vz1,[],er):=by rw[It.dv4 h2 hk HK.out.1 (by rw[←HER.out];exact he),←HER.out]
     have he3:((er:Int)==0)=false:=by simp;omega
     have q0:=hbg.c0;have q1:=hbg.c1;have q2:=hbg.c2;have q3:=hbg.c3;have q4:=hbg.c4;have z0:=hbg.free 0;have z1:=hbg.free 1;have z2:=hbg.free 2;have z3:=hbg.free 3;have z4:=hbg.free 4;have hfin:=hbw.trans ((dy5 It.vz1 hbg rfl).2.below hbw.size (fun g hg=>by rw[c_.1 hg];exact x_ _));have HFIN:=H_ hfin;have HR:=H_ hR;clear htk hsz hrr hx hsze her hbg hbw hnsl hfin hR;go_wp2_with fail;refine HTK.out.mono ?_;rintro e w1 ⟨rfl,hw1⟩;subst hw1;clear HTK;go_wp2;rw[HR.out];refine bodyPost_ret (v:=.tuple #[It.vz1.val,.slice none 0 0,.int .i64 (er:Int)]) (by simp[results,go_sem,It.val,It.vz1, *]) rfl ⟨none,0,0,rfl,Row.nil_,by omega,by omega,by omega,HFIN.out⟩
   ·obtain rfl:k=3:=by omega
    have hR:=It.rq3 h2 HK.out.1;rw[←HS.out.1,←HS.out.2]at hR;have hbA:=HK.out.2.2.2.2.2;have hus:=fun W1=>mj3 (ns.getD 2 0) (cy5 HK.out.1) W1;have hkz:∀w',Chg [w.heap.size] wr w'→w'.cell? ⟨W.heap.size,0,none⟩=some (.int .u64 (ns.getD 0 0:Nat))∧w'.cell? ⟨W.heap.size,1,none⟩=some (.int .u64 (ns.getD 1 0:Nat))∧w'.cell? ⟨W.heap.size,2,none⟩=some (.int .u64 (ns.getD 2 0:Nat)):=fun w' h=>by
     have e:=hbA.chg h (by simpa using fun e=>HNE.out.1 e.symm);exact⟨e.cell 0,e.cell 1,e.cell 2⟩
    generalize ns.getD 0 0=t at *;generalize ns.getD 1 0=v at *;generalize ns.getD 2 0=xv at *;have KZ:=H_ hkz;have HUS:=H_ hus;have HR:=H_ hR;have HBW:=H_ hbw;have HBG2:=H_ hbg;clear hkz hus hR hbA hbw hbg;go_wp2_with fail;refine wp_region_held_drew (S:=fun w'=>Chg [w.heap.size] wr w'∧∃cs:List Value,cs.length=5∧BoxO w' 36 w.heap.size cs) rfl ⟨(Chg.refl _ wr).drew,_,rfl,HBG2.out.drew⟩ (fun hSw=>?_);refine w_v 0 hSw ?_ (k:=kz28);go_simp;refine w_v 1 hSw ?_ (k:=kz28);go_simp;refine w_v 2 hSw ?_ (k:=kz28);go_simp;refine w_v 3 hSw ?_ (k:=kz28);go_simp;refine w_v 4 hSw ?_ (k:=kz28);go_simp;refine w_v 5 hSw ?_ (k:=kz28);go_simp;refine w_v 7 hSw ?_ (k:=kz28);go_simp;refine w_r 6 fun K hK=>?_;go_simp
    with_reducible refine(HUS.out _).mono ?_
    rintro e w7 ⟨rfl,rfl⟩;go_simp;refine hK.out _ _ hSw ?_;clear hSw hK K;intro hSw;go_simp;refine w_r 8 fun K hK=>?_
    (obtain⟨cs,hcl,hcb⟩:=hSw.2;obtain⟨_,_,_,_,_,q0,q1,q2,q3,q4⟩:=yw1 hcb hcl;have z0:=hcb.free 2)
    go_simp;refine hK.out _ _ ⟨hSw.1.setCell _ (.inl (by simp)),_,by rw[au_];exact hcl,hcb.store 2 _⟩ ?_;clear hSw hK K;intro hSw;go_simp;refine w_v 9 hSw ?_ (k:=kz28);go_simp;refine w_r 10 fun K hK=>?_
    (obtain⟨cs,hcl,hcb⟩:=hSw.2;obtain⟨_,_,_,_,_,q0,q1,q2,q3,q4⟩:=yw1 hcb hcl;have z0:=hcb.free 3)
    go_simp;refine hK.out _ _ ⟨hSw.1.setCell _ (.inl (by simp)),_,by rw[au_];exact hcl,hcb.store 3 _⟩ ?_;clear hSw hK K;intro hSw;go_simp;refine w_v 11 hSw ?_ (k:=kz28);go_simp;refine w_r 12 fun K hK=>?_
    (obtain⟨cs,hcl,hcb⟩:=hSw.2;obtain⟨_,_,_,_,_,q0,q1,q2,q3,q4⟩:=yw1 hcb hcl;have z0:=hcb.free 4)
    go_simp;refine hK.out _ _ ⟨hSw.1.setCell _ (.inl (by simp)),_,by rw[au_];exact hcl,hcb.store 4 _⟩ ?_;clear hSw hK K;intro hSw;go_simp;refine wpAnyH_done (by kernel_rfl) ?_ _;have hb5:BoxO (((wr.setCell ⟨w.heap.size,2,none⟩ (.int .u64 (t:Int))).setCell ⟨w.heap.size,3,none⟩ (.int .u64 (v:Int))).setCell ⟨w.heap.size,4,none⟩ (.int .i64 (mx1 xv))).drew 36 w.heap.size [.int .i64 (s:Int),.int .i64 (kd:Int),.int .u64 (t:Int),.int .u64 (v:Int),.int .i64 (mx1 xv)]:=(((HBG2.out.store 2 _).store 3 _).store 4 _).drew;have hcs:=hSw.1;clear hSw;obtain⟨X,hX⟩:=n_ ((((wr.setCell ⟨w.heap.size,2,none⟩ (.int .u64 (t:Int))).setCell ⟨w.heap.size,3,none⟩ (.int .u64 (v:Int))).setCell ⟨w.heap.size,4,none⟩ (.int .i64 (mx1 xv))).drew);rw[←hX]at hb5 hcs ⊢;have q0:=hb5.c0;have q1:=hb5.c1;have q2:=hb5.c2;have q3:=hb5.c3;have q4:=hb5.c4;have z0:=hb5.free 0;have z1:=hb5.free 1;have z2:=hb5.free 2;have z3:=hb5.free 3;have z4:=hb5.free 4;have hbX:=HBW.out.trans (hcs.below HBW.out.size (fun g hg=>by rw[c_.1 hg];exact x_ _));have hfin:=hbX.trans ((dy5 ⟨(s:Int),(kd:Int),t,v,mx1 xv⟩ hb5 rfl).2.below hbX.size (fun g hg=>by rw[c_.1 hg];exact x_ _));have hrow:=HK.out.2.1;have HF:=H_ (d_ hrow (d_ HK.out.2.2.2.2.1 (d_ HK.out.2.2.1 (d_ HK.out.2.2.2.1 hfin))));clear hb5 hcs hX hbX hfin hrow HBG2;go_wp2;rw[HR.out];refine bodyPost_ret (v:=.tuple #[(It.mk (s:Int) (kd:Int) t v (mx1 xv)).val,.slice A4 n c4,.int .i64 0]) (by simp[results,go_sem,It.val, *]) rfl ⟨A4,n,c4,rfl,HF.out⟩
end
section
open Go Go.RowKit Go.Shelf
structure Dm (w:World) (X:Dw) (S:Sd):Prop where
 dk:DK w X S
 wf:S.Wf
 env:Env w
 base:∀g∈X.foot,NG≤g
theorem Dm.below {w w':World} {X:Dw} {S:Sd} (h:Dm w X S) (hb:Below w.heap.size w w'):Dm w' X S:=⟨h.dk.below hb,h.wf,h.env.below hb,h.base⟩
theorem Dm.chg {w w':World} {X:Dw} {S:Sd} {G:List Nat} (h:Dm w X S) (c:Chg G w w') (hG:∀g∈G,g∉X.foot∧NG≤g):Dm w' X S:=⟨h.dk.chg c (fun g hg=>(hG g hg).1),h.wf,h.env.chg c (fun g hg=>(hG g hg).2),h.base⟩
def UpdM (X:Dw) (w w':World) (S':Sd):Prop:=∃X',X'.d=X.d∧Dm w' X' S'∧Chg X.foot w w'∧∀g∈X'.foot,g∈X.foot∨w.heap.size≤g
theorem Dm.upd {w w':World} {X:Dw} {S S':Sd} (h:Dm w X S) (hw:S'.Wf) (hu:Upd X w w' S'):UpdM X w w' S':=by
 obtain⟨X',e,hd,hc,hf⟩:=hu;have hb:=h.env.base;exact⟨X',e,⟨hd,hw,h.env.chg hc h.base,fun g hg=>by
  rcases hf g hg with h1|h1
  ·exact h.base g h1
  ·omega⟩,hc,hf⟩
theorem UpdM.trans {w w1 w2:World} {X X1:Dw} {S2:Sd} (e:X1.d=X.d) (c:Chg X.foot w w1) (hf:∀g∈X1.foot,g∈X.foot∨w.heap.size≤g) (h2:UpdM X1 w1 w2 S2):UpdM X w w2 S2:=by
 obtain⟨X',e',h,c',hf'⟩:=h2;refine⟨X',e'.trans e,h,c.trans c' (fun g hg=>hf g hg),fun g hg=>?_⟩
 rcases hf' g hg with h3|h3
 ·exact hf g h3
 ·exact .inr (h_ c.size h3)
theorem lv1 {S:Sd} (hw:S.Wf):∀s∈S.list,Sd.named s=true:=by
 intro s hs;unfold Sd.list at hs;split at hs
 ·cases hs
 ·rw[List.mem_mergeSort]at hs
  obtain⟨p,hp,rfl⟩:=bc_.1 hs;exact hw.gnames p hp
theorem oz1 {s:List UInt8} (h:Sd.named s=true):1≤s.length∧s.length≤16:=by
 simp only[Sd.named,K_,decide_eq_true_eq]at h;exact h.1
theorem pz1 {S:Sd} (hw:S.Wf):S.list.length≤64:=by
 unfold Sd.list;split
 ·simp
 ·rw[List.length_mergeSort,az_];exact hw.most
theorem Row.enc {B n:Nat} {w:World} {A:Option Addr} {ss:List (List UInt8)} (h:Row B w A n 1 (ss.map Go.Proofs.encStr)) {k:Nat} (hk:k < n):∃a,∃hl:k < ss.length,A=some a∧a.block < B∧w.cell? (a.add k)=some (.string (str ss[k])):=by
 obtain⟨a,v,e,hb,hv,hc⟩:=h.at1 hk;have hl:k < ss.length:=by
  have:=h.len;simp at this;omega
 rw[b3_,j_ hl]at hv;injection hv with hv;subst hv;exact⟨a,hl,e,hb,hc⟩
theorem qv2 (X:Dw) (S:Sd) (k:ByteArray) (hk:k.size≤1000) (w:World) (h:Dm w X S):
  Calls Tryz.prog 177 #[.pointer (some ⟨X.d,0,none⟩),.string k] w fun e w'=>e=.returned (.int .i64 (Mn.greatest S.list k.data.toList))∧Below w.heap.size w w':=by
 have hl:=xz2 X S h.wf w h.dk;have hnm:=lv1 h.wf;have hlen:=pz1 h.wf;obtain⟨L,hL⟩:=n_ S.list;rw[←hL]at hl hnm hlen ⊢;clear hL;have HNM:=H_ hnm;clear hnm;obtain⟨R,hR⟩:=n_ (Mn.greatest L k.data.toList);rw[←hR];have HR:=H_ hR;clear hR;go_enter Tryz.func177,Tryz.ntmps177;go_wp2_with fail;refine hl.mono ?_;rintro e w1 ⟨A,c,rfl,hown,hb1⟩;have hrow:=Row.own hown;have hcap:L.length≤c:=by
  obtain⟨A',c',e,h1,_⟩:=dw hown;injection e with _ e2 e3;omega
 go_wp2
 go_loopw [5,13] (fun m i wr=>∃j:Nat,j≤L.length∧i=.int .i64 (j:Int)∧m=.int .i64 (Mn.greatest (L.take j) k.data.toList)∧Below w.heap.size w wr∧Below w1.heap.size w1 wr) (fun _ i _=>L.length - (intOf i).toNat)
 case atStart=>exact⟨0,t_ _,rfl,rfl,hb1,Below.refl _ _⟩
 case round=>
  obtain⟨j,hj,rfl,rfl,hbw,hb1w⟩:=hrel
  by_cases hlt:j < L.length
  ·have hrow':=(hrow.below hb1w)
   obtain⟨a,hl',rfl,_,hcl⟩:=hrow'.enc hlt;have hsn:=HNM.out _ (v_ hl');have hsl:=oz1 hsn;have HT:=H_ (Mn.mj2 hl' k.data.toList);have hnum:=ly1 (str L[j]) k (by rw[kz];omega) hk wr (h.env.below hbw);rw[nz]at hnum;generalize L[j]=s at *;go_wp2_with fail;refine hnum.mono ?_;rintro e w2 ⟨rfl,hb2⟩;have hb3:=hbw.trans (hb2.mono hbw.size);have hb4:=hb1w.trans (hb2.mono hb1w.size)
   cases hns:Mn.number s k.data.toList with
   |none=>
    rw[hns]at HT;unfold numV;generalize hG:Mn.greatest (L.take j) k.data.toList=G at *;clear hnum hcl hrow';go_wp2;go_roundw
    case rel=>exact⟨j+1,by omega,by go_num,by rw[HT.out];simp,hb3,hb4⟩
    case measure=>simp[intOf];omega
   |some v=>
    rw[hns]at HT;unfold numV;generalize hG:Mn.greatest (L.take j) k.data.toList=G at *;clear hnum hcl hrow';go_wp2;go_roundw
    case rel=>exact⟨j+1,by omega,by go_num,by rw[HT.out];simp,hb3,hb4⟩
    case measure=>simp[intOf];omega
  ·have e1:L.take j=L:=i_ (by omega)
   rw[e1,←show R=_ from HR.out];go_wp2;go_ret;exact⟨rfl,hbw⟩
theorem write_any (X:Dw) (S:Sd) (s:ByteArray) (hs:s.size≤maxLen) (A:Option Addr) (m c:Nat) (b:List UInt8) (hm:m≤1099511627776) (hl:S.load≤1099511627776) (w:World) (h:Dm w X S) (hr:Row w.heap.size w A m 1 (bts b)) (hA:∀a,A=some a→a.block∉X.foot):
  Calls Tryz.prog 249 #[.pointer (some ⟨X.d,0,none⟩),.string s,.slice A m c] w fun e w'=>e=.returned (.int .i64 ((S.write s.data.toList b).2:Int))∧UpdM X w w' (S.write s.data.toList b).1:=by
 have hcr:=dw2 X S s hs h.wf hl w h.dk;have hw1:=h.wf.create s.data.toList;have hup1:=fun w1 (hu:Upd X w w1 (S.create s.data.toList).1)=>h.upd hw1 hu;have hsy:S.write s.data.toList b=if (S.create s.data.toList).2≠0 then S.create s.data.toList else if ((S.create s.data.toList).1.append s.data.toList b).2≠0 then (S.create s.data.toList).1.append s.data.toList b
  else ((S.create s.data.toList).1.append s.data.toList b).1.sync s.data.toList:=rfl
 generalize S.create s.data.toList=R1 at *;obtain⟨S1,e1⟩:=R1;simp only at *
 by_cases h0:e1=0
 ·subst h0
  rw[if_neg (by simp)]at hsy;have hw2:=hw1.append s.data.toList b;have hap:=fun X1 w1 (h1:DK w1 X1 S1) hr1 hA1=>sy1 X1 S1 s hs A m c b hm hw1 w1 h1 hr1 hA1;generalize S1.append s.data.toList b=R2 at *;obtain⟨S2,e2⟩:=R2;simp only at *
  by_cases h1:e2=0
  ·subst h1
   rw[if_neg (by simp)]at hsy;have hw3:=hw2.sync s.data.toList;have hsn:=fun X1 w1 (h1:DK w1 X1 S2)=>sync_any X1 S2 s hs hw2 w1 h1;generalize S2.sync s.data.toList=R3 at *;obtain⟨S3,e3⟩:=R3;simp only at *;rw[hsy];clear hsy;have HR:=H_ hr;have HA:=H_ hA;clear hr hA;go_enter Tryz.func249,Tryz.ntmps249;go_wp2_with fail;refine hcr.mono ?_;rintro e w1 ⟨rfl,hu1⟩;obtain⟨X1,ed1,hd1,hc1,hf1⟩:=hup1 w1 hu1;have hr1:=Row.mv2 HR.out hc1 l_ HA.out;have hA1:∀a,A=some a→a.block≠X1.d:=fun a ha=>by rw[ed1];exact fun e=>HA.out a ha (by rw[e];exact aj.2 (.inl rfl))
   have hcall2:=hap X1 w1 hd1.dk hr1 hA1;rw[ed1]at hcall2;have H2:=H_ hcall2;clear hcall2 hA1 hap hup1 hu1 hr1;go_wp2_with fail;refine H2.out.mono ?_;rintro e w2 ⟨rfl,hu2⟩;obtain⟨X2,ed2,hd2,hc2,hf2⟩:=hd1.upd hw2 hu2;have hcall3:=hsn X2 w2 hd2.dk;rw[ed2,ed1]at hcall3;have H3:=H_ hcall3;clear hcall3 hsn hu2;go_wp2_with fail;refine H3.out.mono ?_;rintro e w3 ⟨rfl,hu3⟩;have hfin:=UpdM.trans ed1 hc1 hf1 (UpdM.trans ed2 hc2 hf2 (hd2.upd hw3 hu3));clear hu3;go_wp2;go_ret;exact⟨rfl,hfin⟩
  ·have hne:=neq0 h1
   rw[if_pos h1]at hsy;rw[hsy];clear hsy;have HR:=H_ hr;have HA:=H_ hA;clear hr hA h1;go_enter Tryz.func249,Tryz.ntmps249;go_wp2_with fail;refine hcr.mono ?_;rintro e w1 ⟨rfl,hu1⟩;obtain⟨X1,ed1,hd1,hc1,hf1⟩:=hup1 w1 hu1;have hr1:=Row.mv2 HR.out hc1 l_ HA.out;have hA1:∀a,A=some a→a.block≠X1.d:=fun a ha=>by rw[ed1];exact fun e=>HA.out a ha (by rw[e];exact aj.2 (.inl rfl))
   have hcall2:=hap X1 w1 hd1.dk hr1 hA1;rw[ed1]at hcall2;have H2:=H_ hcall2;clear hcall2 hA1 hap hup1 hu1 hr1;go_wp2_with fail;refine H2.out.mono ?_;rintro e w2 ⟨rfl,hu2⟩;have hfin:=UpdM.trans ed1 hc1 hf1 (hd1.upd hw2 hu2);clear hu2;go_wp2;go_ret;exact⟨rfl,hfin⟩
 ·have hne:=neq0 h0
  rw[if_pos h0]at hsy;rw[hsy];clear hsy h0;go_enter Tryz.func249,Tryz.ntmps249;go_wp2_with fail;refine hcr.mono ?_;rintro e w1 ⟨rfl,hu1⟩;have hfin:=hup1 w1 hu1;clear hu1 hup1;go_wp2;go_ret;exact⟨rfl,hfin⟩
end
end Go.Proofs.YthjdpplgfdihoaaGreatDoor
