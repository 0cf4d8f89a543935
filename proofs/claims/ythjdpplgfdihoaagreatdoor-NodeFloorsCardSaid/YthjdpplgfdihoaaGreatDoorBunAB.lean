/- Texts DiskA, DiskB, DiskC, DiskD, PlainDiskB, DiskE in one. No conditions. -/
import Derived.Test.YthjdpplgfdihoaaGreatDoorBunAA
import Derived.Maps.OwnOps
import Derived.Laws.LoneSync
import Derived.Maps.RangeWalk

set_option linter.unusedSimpArgs false
set_option linter.unusedVariables false
set_option maxRecDepth 100000
set_option maxHeartbeats 16000000
namespace Go.Proofs.YthjdpplgfdihoaaGreatDoor
section
open Go Go.RowKit Go.Maps
theorem yq3 (g t:Nat):(⟨g,0,none⟩:Addr).add t=⟨g,t,none⟩:=by
 unfold Addr.add;split
 ·subst_vars;rfl
 ·simp
theorem uv1 {a b:Bool} (h:a=b):Ending.returned (.bool a)=.returned (.bool b):=by rw[h]
theorem my2 {s:ByteArray} {k:Nat} (h:k < s.size):(s.data.toList.take (k+1)).all Sd.okCh=((s.data.toList.take k).all Sd.okCh&&Sd.okCh s[k]):=by
 rw[List.take_succ_eq_append_getElem (by simpa using h),List.all_append];simp;rfl
theorem zy4 {s:ByteArray} {k:Nat} (h:k < s.size) (hn:Sd.okCh s[k]=false):s.data.toList.all Sd.okCh=false:=by
 rw[List.all_eq_false];exact⟨s[k],by
  have:s[k]=s.data.toList[k]'(by simpa using h):=rfl;rw[this];exact List.getElem_mem _,by simp[hn]⟩
theorem zq1 (s:ByteArray) (hs:s.size≤maxLen) (w:World):Calls Tryz.prog 73 #[.string s] w fun e w'=>e=.returned (.bool (Sd.named s.data.toList))∧w=w':=by
 unfold maxLen at hs
 by_cases h1:s.size < 1
 ·have he:Sd.named s.data.toList=false:=by
   have:s.data.toList.length < 1:=by simpa using h1
   simp[Sd.named];omega
  rw[he];clear he;go_enter Tryz.func73,Tryz.ntmps73;go_wp2;go_ret;exact⟨rfl,rfl⟩
 by_cases h2:16 < s.size
 ·have he:Sd.named s.data.toList=false:=by
   have:16 < s.data.toList.length:=by simpa using h2
   simp[Sd.named];omega
  rw[he];clear he;go_enter Tryz.func73,Tryz.ntmps73;go_wp2;go_ret;exact⟨rfl,rfl⟩
 have he:Sd.named s.data.toList=s.data.toList.all Sd.okCh:=by
  have:s.data.toList.length=s.size:=by simp
  simp only[Sd.named,this];rw[decide_eq_true (by omega),decide_eq_true (by omega)];rfl
 rw[he];clear he;obtain⟨R,hR⟩:∃R,R=s.data.toList.all Sd.okCh:=⟨_,rfl⟩;rw[←hR];have HR:=Lib.hid hR;clear hR;go_enter Tryz.func73,Tryz.ntmps73;go_wp2
 go_loop [15] (fun i=>∃k:Nat,k≤s.size∧i=.int .i64 (k:Int)∧(s.data.toList.take k).all Sd.okCh=true) (fun i=>s.size - (intOf i).toNat)
 case atStart=>exact⟨0,Nat.zero_le _,rfl,rfl⟩
 case round=>
  obtain⟨k,hk,rfl,hal⟩:=hrel;have HA:=Lib.hid hal;clear hal
  by_cases hlt:k < s.size
  ·cases hch:Sd.okCh s[k] with
   |true=>
    have HT:Hid ((s.data.toList.take (k+1)).all Sd.okCh=true):=Lib.hid (by rw[my2 hlt,HA.out,hch];rfl);simp only[Sd.okCh,Bool.or_eq_true,Bool.and_eq_true,decide_eq_true_eq]at hch
    rcases hch with (⟨c1,c2⟩|⟨c1,c2⟩)|c1
    ·have e1:((s[k].toNat:Int) < 97)=False:=by simp;omega
     have e2:((122:Int) < (s[k].toNat:Int))=False:=by simp;omega
     clear c1 c2;go_wp2
     go_round
     case rel=>exact⟨k+1,by omega,by go_num,HT.out⟩
     case measure=>simp[intOf];omega
    ·have e1:((s[k].toNat:Int) < 97):=by omega
     have e2:((s[k].toNat:Int) < 48)=False:=by simp;omega
     have e3:((57:Int) < (s[k].toNat:Int))=False:=by simp;omega
     clear c1 c2;go_wp2
     go_round
     case rel=>exact⟨k+1,by omega,by go_num,HT.out⟩
     case measure=>simp[intOf];omega
    ·have e1:((s[k].toNat:Int) < 97):=by omega
     have e2:((s[k].toNat:Int) < 48):=by omega
     have e3:((s[k].toNat:Int)==46)=true:=by simp[c1]
     have e4:((s[k].toNat:Int) !=46)=false:=by simp[bne,e3]
     clear c1;go_wp2
     go_round
     case rel=>exact⟨k+1,by omega,by go_num,HT.out⟩
     case measure=>simp[intOf];omega
   |false=>
    have HF:=Lib.hid (zy4 hlt hch);simp only[Sd.okCh,Bool.or_eq_false_iff,Bool.and_eq_false_iff,decide_eq_false_iff_not]at hch;obtain⟨⟨c1,c2⟩,c3⟩:=hch;have e3:((s[k].toNat:Int)==46)=false:=by simp;omega
    have e4:((s[k].toNat:Int) !=46)=true:=by simp[bne,e3]
    by_cases d1:s[k].toNat < 48
    ·have e1:((s[k].toNat:Int) < 97):=by omega
     have e2:((s[k].toNat:Int) < 48):=by omega
     clear c1 c2 c3 d1;go_wp2;go_ret;exact⟨uv1 (HR.out.trans HF.out).symm,rfl⟩
    by_cases d2:s[k].toNat < 97
    ·have e1:((s[k].toNat:Int) < 97):=by omega
     have e2:((s[k].toNat:Int) < 48)=False:=by simp;omega
     have e5:((57:Int) < (s[k].toNat:Int)):=by omega
     clear c1 c2 c3 d1 d2;go_wp2;go_ret;exact⟨uv1 (HR.out.trans HF.out).symm,rfl⟩
    have e1:((s[k].toNat:Int) < 97)=False:=by simp;omega
    have e2:((122:Int) < (s[k].toNat:Int)):=by omega
    have e6:((s[k].toNat:Int) < 48)=False:=by simp;omega
    have e5:((57:Int) < (s[k].toNat:Int)):=by omega
    clear c1 c2 c3 d1 d2;go_wp2;go_ret;exact⟨uv1 (HR.out.trans HF.out).symm,rfl⟩
  ·have ha:s.data.toList.all Sd.okCh=true:=by
    have:=HA.out
    rwa [List.take_of_length_le (by simp;omega)]at this
   have HF:=Lib.hid ha;clear ha;go_wp2;go_ret;exact⟨uv1 (HR.out.trans HF.out).symm,rfl⟩
theorem jj2 (X:Nat) (b:Bool) (w:World) (h:w.cell? ⟨X,6,none⟩=some (.bool b)):Calls Tryz.prog 40 #[.pointer (some ⟨X,0,none⟩)] w fun e w'=>e=.returned (.bool b)∧w=w':=by
 go_enter Tryz.func40,Tryz.ntmps40;go_wp2;go_ret;exact⟨rfl,rfl⟩
theorem zj1 (w:World):(zeroValue 3).run Tryz.prog w=.ok (.int .i64 0) w:=by kernel_rfl
theorem jj1:Keyed Tryz.prog 9:=Maps.string_keyed Tryz.underlying9
theorem pv3 {s:ByteArray} (hs:s.size≤maxLen):keyOf Tryz.prog 9 (.string s)=some (.string s.data.toList):=Go.WideMaps.keyOf_string_mk Tryz.underlying9 hs
theorem DK.fileAt {w:World} {X:Dw} {S:Sd} (h:DK w X S) {i:Nat} (hi:i < S.files.length):∃g cap,X.fv=.slice (some ⟨g,0,none⟩) S.files.length cap∧w.cell? ⟨g,i,none⟩=some (ptrV (X.ps.getD i (0,Go.undef)))∧S.files.length≤9223372036854775807:=by
 have hip:i < X.ps.length:=by rw[h.flen];exact hi
 have hfil:=h.files;obtain⟨g,cap,hg1⟩:∃g cap,X.fv=.slice (some ⟨g,0,none⟩) S.files.length cap:=by
  rcases hfil.2 with ⟨_,h0⟩|⟨g,cap,cur,hv,_⟩
  ·omega
  ·exact⟨g,cap,hv⟩
 have hbig:S.files.length≤9223372036854775807:=by
  obtain⟨A,c,e,h1,h2,_⟩:=ay hfil;unfold maxLen at h2;omega
 rw[hg1]at hfil;have hcell:=hfil.cells (g:=g) rfl i (ptrV (X.ps.getD i (0,Go.undef))) (by simp[List.getD_eq_getElem?_getD,hip]);rw[yq3]at hcell;exact⟨g,cap,hg1,hcell,hbig⟩
theorem find_any (X:Dw) (S:Sd) (s:ByteArray) (hs:s.size≤maxLen) (w:World) (h:DK w X S) (hl:Sd.fz1 S.names S.files.length):
  Calls Tryz.prog 74 #[.pointer (some ⟨X.d,0,none⟩),.string s] w fun e w'=>e=.returned (match S.names.get s.data.toList with
   |none=>.pointer none
   |some i=>ptrV (X.ps.getD i (0,Go.undef)))∧w=w':=by
 have hbox:=h.box;have d2:=hbox.cell 2;have d1:=hbox.cell 1;simp only[Dw.cells,gE0,gE1]at d1 d2;have hkey:=pv3 hs;have hn:=h.names;have hhas:=Nm.zz1 S.names s.data.toList
 cases hg:S.names.get s.data.toList with
 |some i=>
  have hi:=hl _ (Nm.get_mem hg);simp only at hi;obtain⟨g,cap,hfv,hcell,hbig⟩:=h.fileAt hi;have hi':(i:Int) < (S.files.length:Int):=by omega
  rw[hfv]at d1;rw[hg]at hhas;have HH:=Lib.hid hhas;have HA:=Lib.hid (fun z=>Nm.ox2 S.names s.data.toList z hg);clear hhas hfv hg;go_enter Tryz.func74,Tryz.ntmps74;go_wp2_with (at_lookup;refine wpList_lookup_own_ok_int _ rfl _ _ 90 rfl 9 3 .i64 jj1 Tryz.underlying90 Tryz.underlying3 (zj1 _) X.nb _ _ rfl hn _ _ rfl hkey ?_;intro c hat hwc;rw[HA.out]at hat;injection hat with hat;injection hat with _ hat;subst hat;rw[HH.out]);go_wp2;go_ret;exact⟨rfl,rfl⟩
 |none=>
  rw[hg]at hhas;have HH:=Lib.hid hhas;clear hhas hg;go_enter Tryz.func74,Tryz.ntmps74;go_wp2_with (at_lookup;refine wpList_lookup_own_ok_int _ rfl _ _ 90 rfl 9 3 .i64 jj1 Tryz.underlying90 Tryz.underlying3 (zj1 _) X.nb _ _ rfl hn _ _ rfl hkey ?_;intro c hat hwc;rw[HH.out]);go_wp2;go_ret;exact⟨rfl,rfl⟩
end
section
open Go Go.RowKit Go.Maps
def strs (ss:List ByteArray):List Value:=ss.map Value.string
theorem strs_get (ss:List ByteArray) (k:Nat):(strs ss)[k]?=(ss[k]?).map Value.string:=by simp[strs]
theorem Row.st {B n:Nat} {w:World} {A:Option Addr} {ss:List ByteArray} (h:Row B w A n 1 (strs ss)) {k:Nat} (hk:k < n):∃a,∃hl:k < ss.length,A=some a∧a.block < B∧w.cell? (a.add k)=some (.string ss[k]):=by
 obtain⟨a,v,e,hb,hv,hc⟩:=h.at1 hk;have hl:k < ss.length:=by
  have:=h.len;simp[strs]at this;omega
 rw[strs_get,List.getElem?_eq_getElem hl]at hv;injection hv with hv;subst hv;exact⟨a,hl,e,hb,hc⟩
theorem sz3 (g:Nat) (j:Nat) (c:Int) (w:World) (h:w.cell? ⟨g,j,none⟩=some (.int .i64 c)) (hf:w.frozen? ⟨g,j,none⟩=false):
  Calls Tryz.prog 147 #[.pointer (some ⟨g,j,none⟩),.int .i64 1] w fun e w'=>∃v,e=.returned v∧w'=w.setCell ⟨g,j,none⟩ (.int .i64 (wrap64 (c+1))):=by
 have hadd:=run_call_add (P:=Tryz.prog) Tryz.func223 (by kernel_rfl) (by kernel_rfl) (by kernel_rfl) .i64 (by kernel_rfl) (y:=1) (s:=wrap64 (c+1)) h hf (by simp[go_sem,IntKind.wrap_i64,wrap64]);go_enter Tryz.func147,Tryz.ntmps147;go_wp2;go_ret;exact⟨_,rfl,rfl⟩
def texts (ss:List ByteArray):List (List UInt8):=ss.map fun s=>s.data.toList
theorem nx3 {ss:List ByteArray} {k:Nat} (h:k < ss.length):(texts (ss.take (k+1))).all Sd.named=((texts (ss.take k)).all Sd.named&&Sd.named (ss[k]).data.toList):=by
 unfold texts;rw[List.take_succ_eq_append_getElem h,List.map_append,List.all_append];simp
theorem lx4 {ss:List ByteArray} {k:Nat} (h:k < ss.length) (hn:Sd.named (ss[k]).data.toList=false):(texts ss).all Sd.named=false:=by
 rw[List.all_eq_false];exact⟨_,List.mem_map.2 ⟨ss[k],List.getElem_mem h,rfl⟩,by simp[hn]⟩
theorem nq2 (X:Dw) (S:Sd) (A:Option Addr) (n c:Nat) (ss:List ByteArray) (hn:n≤1000) (hss:∀s∈ss,s.size≤maxLen) (hst:S.stop≤9223372036854775807) (hfa:S.fail≤9223372036854775807) (w:World) (h:DK w X S) (hr:Row w.heap.size w A n 1 (strs ss)):
  Calls Tryz.prog 75 #[.pointer (some ⟨X.d,0,none⟩),.slice A n c] w fun e w'=>e=.returned (.int .i64 ((S.call (texts ss)).2:Int))∧DK w' X (S.call (texts ss)).1∧Chg [X.d] w w':=by
 have hbox:=h.box;have HSS:=Lib.hid hss;clear hss;have hsl:ss.length=n:=by simpa [strs] using hr.len
 obtain⟨S',hS'⟩:∃S',S'=(S.call (texts ss)).1:=⟨_,rfl⟩;obtain⟨er,her⟩:∃er,er=(S.call (texts ss)).2:=⟨_,rfl⟩;rw[←hS',←her];have HS:=Lib.hid hS';have HE:=Lib.hid her;clear hS' her;have HSL:=Lib.hid hsl;clear hsl;go_enter Tryz.func75,Tryz.ntmps75;go_wp2
 go_loop [9] (fun i=>∃k:Nat,k≤n∧i=.int .i64 (k:Int)∧Hid ((texts (ss.take k)).all Sd.named=true)) (fun i=>n - (intOf i).toNat)
 case atStart=>exact⟨0,Nat.zero_le _,rfl,rfl⟩
 case round=>
  obtain⟨k,hk,rfl,HA⟩:=hrel
  by_cases hlt:k < n
  ·obtain⟨a,hl,rfl,_,hcl⟩:=hr.st hlt
   have hnm:=HSS.out ss[k] (List.getElem_mem hl);have HT:=nx3 hl;have HF:=@lx4 ss k hl;generalize ss[k]=s at *;go_wp2_with fail
   cases hch:Sd.named s.data.toList with
   |true=>
    have HT2:Hid ((texts (ss.take (k+1))).all Sd.named=true):=by
     have h1:=HA.out;show _=true
     rw[HT,h1,hch];rfl
    clear HT HF;refine(zq1 s hnm w).mono ?_;rintro e w1 ⟨rfl,rfl⟩;rw[hch];clear hch;go_wp2
    go_round
    case rel=>exact⟨k+1,by omega,by go_num,HT2⟩
    case measure=>simp[intOf];omega
   |false=>
    have hbad:=HF hch;have e1:er=10:=by rw[show er=_ from HE.out];simp[Sd.call,hbad]
    have e2:S'=S:=by rw[show S'=_ from HS.out];simp[Sd.call,hbad]
    clear HT HF hbad;subst e1 e2;refine(zq1 s hnm w).mono ?_;rintro e w1 ⟨rfl,rfl⟩;rw[hch];clear hch;go_wp2;go_ret;exact⟨rfl,h,Chg.refl _ _⟩
  ·have hall:(texts ss).all Sd.named=true:=by
    have h1:=HA.out;have h2:=HSL.out
    rwa [List.take_of_length_le (by omega)]at h1
   go_wp2_with fail;refine(sz3 X.d 5 S.calls w (by rw[hbox.cell 5];rfl) (hbox.free 5)).mono ?_;rintro e w1 ⟨v,rfl,rfl⟩;have hbox1:=hbox.store 5 (.int .i64 (wrap64 (S.calls+1)));have hchg:=pz w ⟨X.d,5,none⟩ (.int .i64 (wrap64 (S.calls+1)));generalize hV:w.setCell ⟨X.d,5,none⟩ (.int .i64 (wrap64 (S.calls+1)))=V at *;clear hV hbox;have d7:=hbox1.cell 7;have d8:=hbox1.cell 8;have d6:=hbox1.cell 6;have f6:=hbox1.free 6;have f7:=hbox1.free 7;have f8:=hbox1.free 8;simp only[Dw.cells,gE0,gE1,List.set_cons_succ,List.set_cons_zero]at d6 d7 d8;have hdead:=jj2 X.d S.dead V (by rw[hbox1.cell 6];rfl);have key:=fun(S2:Sd) (w2:World) (hc:Chg [X.d] V w2) (hb:BoxO w2 99 X.d (X.cells S2)) (e1:S2.names=S.names) (e2:S2.lasted=S.lasted) (e3:S2.files=S.files) (e4:S2.turns=S.turns)=>(⟨h.cy5 (hchg.trans hc (fun g hg=>.inl hg)) hb e1 e2 e3 e4,hchg.trans hc (fun g hg=>.inl hg)⟩:DK w2 X S2∧Chg [X.d] w w2);have hX:∀b:Bool,(texts ss).all Sd.named=false→b=false:=fun _ h=>by rw[hall]at h;cases h
   clear hX
   cases hde:S.dead with
   |true=>
    rw[hde]at hdead;have e1:er=50:=by rw[show er=_ from HE.out];simp[Sd.call,hall,hde]
    have e2:S'={ S with calls:=wrap64 (S.calls+1) }:=by rw[show S'=_ from HS.out];simp[Sd.call,hall,hde]
    have kk:=key S' V (Chg.refl _ _) (by rw[e2];exact hbox1) (by rw[e2]) (by rw[e2]) (by rw[e2]) (by rw[e2]);have HK:=Lib.hid kk;clear e2 kk key hall hde h hchg;subst e1;go_wp2_with fail;refine hdead.mono ?_;rintro e w1 ⟨rfl,rfl⟩;go_wp2;go_ret;exact⟨rfl,HK.out⟩
   |false=>
    rw[hde]at hdead;obtain⟨q,fs,nm,la,tu,ca,de,st,fa⟩:=S;simp only at *;subst hde;have hcall:=fun(a:Sd×Nat) (hh:Sd.call ⟨q,fs,nm,la,tu,ca,false,st,fa⟩ (texts ss)=a)=>(⟨HS.out.trans (congrArg Prod.fst hh),HE.out.trans (congrArg Prod.snd hh)⟩:S'=a.1∧er=a.2)
    rcases Nat.lt_or_ge 0 st with s0|s0
    ·rcases Nat.lt_or_ge 1 st with s1|s1
     ·have t1:((st:Int) - 1==0)=false:=by simp;omega
      rcases Nat.lt_or_ge 0 fa with a0|a0
      ·rcases Nat.lt_or_ge 1 fa with a1|a1
       ·have t2:((fa:Int) - 1==0)=false:=by simp;omega
        obtain⟨g1,g2⟩:=hcall (⟨q,fs,nm,la,tu,wrap64 (ca+1),false,st - 1,fa - 1⟩,0) (by simp[Sd.call,hall,show ¬(st - 1=0) by omega,s0,show ¬(fa - 1=0) by omega,a0]);have e1:((st - 1:Nat):Int)=(st:Int) - 1:=by omega
        have e2:((fa - 1:Nat):Int)=(fa:Int) - 1:=by omega
        have kk:=key S' (((V.setCell ⟨X.d,7,none⟩ (.int .i64 ((st:Int) - 1))).setCell ⟨X.d,6,none⟩ (.bool false)).setCell ⟨X.d,8,none⟩ (.int .i64 ((fa:Int) - 1))) ((((Chg.refl _ _).setCell _ (.inl (by simp))).setCell _ (.inl (by simp))).setCell _ (.inl (by simp))) (by
         rw[g1,Dw.cells];simp only[e1,e2];exact(((hbox1.store 7 (.int .i64 ((st:Int) - 1))).store 6 (.bool false)).store 8 (.int .i64 ((fa:Int) - 1)))) (by rw[g1]) (by rw[g1]) (by rw[g1]) (by rw[g1])
        have HK:=Lib.hid kk;simp only at g2;clear g1 kk key hall h hchg hcall e1 e2;subst g2;go_wp2_with fail;refine hdead.mono ?_;rintro e w1 ⟨rfl,rfl⟩;go_wp2;go_ret;exact⟨rfl,HK.out⟩
       ·obtain rfl:fa=1:=by omega
        obtain⟨g1,g2⟩:=hcall (⟨q,fs,nm,la,tu,wrap64 (ca+1),false,st - 1,0⟩,15) (by simp[Sd.call,hall,show ¬(st - 1=0) by omega,s0]);have e1:((st - 1:Nat):Int)=(st:Int) - 1:=by omega
        have kk:=key S' (((V.setCell ⟨X.d,7,none⟩ (.int .i64 ((st:Int) - 1))).setCell ⟨X.d,6,none⟩ (.bool false)).setCell ⟨X.d,8,none⟩ (.int .i64 0)) ((((Chg.refl _ _).setCell _ (.inl (by simp))).setCell _ (.inl (by simp))).setCell _ (.inl (by simp))) (by
         rw[g1,Dw.cells];simp only[e1];exact(((hbox1.store 7 (.int .i64 ((st:Int) - 1))).store 6 (.bool false)).store 8 (.int .i64 0))) (by rw[g1]) (by rw[g1]) (by rw[g1]) (by rw[g1])
        have HK:=Lib.hid kk;simp only at g2;clear g1 kk key hall h hchg hcall e1;subst g2;go_wp2_with fail;refine hdead.mono ?_;rintro e w1 ⟨rfl,rfl⟩;go_wp2;go_ret;exact⟨rfl,HK.out⟩
      ·obtain rfl:fa=0:=by omega
       obtain⟨g1,g2⟩:=hcall (⟨q,fs,nm,la,tu,wrap64 (ca+1),false,st - 1,0⟩,0) (by simp[Sd.call,hall,show ¬(st - 1=0) by omega,s0]);have e1:((st - 1:Nat):Int)=(st:Int) - 1:=by omega
       have kk:=key S' ((V.setCell ⟨X.d,7,none⟩ (.int .i64 ((st:Int) - 1))).setCell ⟨X.d,6,none⟩ (.bool false)) (((Chg.refl _ _).setCell _ (.inl (by simp))).setCell _ (.inl (by simp))) (by
        rw[g1,Dw.cells];simp only[e1];exact((hbox1.store 7 (.int .i64 ((st:Int) - 1))).store 6 (.bool false))) (by rw[g1]) (by rw[g1]) (by rw[g1]) (by rw[g1])
       have HK:=Lib.hid kk;simp only at g2;clear g1 kk key hall h hchg hcall e1;subst g2;go_wp2_with fail;refine hdead.mono ?_;rintro e w1 ⟨rfl,rfl⟩;go_wp2;go_ret;exact⟨rfl,HK.out⟩
     ·obtain rfl:st=1:=by omega
      rcases Nat.lt_or_ge 0 fa with a0|a0
      ·rcases Nat.lt_or_ge 1 fa with a1|a1
       ·have t2:((fa:Int) - 1==0)=false:=by simp;omega
        obtain⟨g1,g2⟩:=hcall (⟨q,fs,nm,la,tu,wrap64 (ca+1),true,0,fa - 1⟩,0) (by simp[Sd.call,hall,show ¬(fa - 1=0) by omega,a0]);have e2:((fa - 1:Nat):Int)=(fa:Int) - 1:=by omega
        have kk:=key S' (((V.setCell ⟨X.d,7,none⟩ (.int .i64 0)).setCell ⟨X.d,6,none⟩ (.bool true)).setCell ⟨X.d,8,none⟩ (.int .i64 ((fa:Int) - 1))) ((((Chg.refl _ _).setCell _ (.inl (by simp))).setCell _ (.inl (by simp))).setCell _ (.inl (by simp))) (by
         rw[g1,Dw.cells];simp only[e2];exact(((hbox1.store 7 (.int .i64 0)).store 6 (.bool true)).store 8 (.int .i64 ((fa:Int) - 1)))) (by rw[g1]) (by rw[g1]) (by rw[g1]) (by rw[g1])
        have HK:=Lib.hid kk;simp only at g2;clear g1 kk key hall h hchg hcall e2;subst g2;go_wp2_with fail;refine hdead.mono ?_;rintro e w1 ⟨rfl,rfl⟩;go_wp2;go_ret;exact⟨rfl,HK.out⟩
       ·obtain rfl:fa=1:=by omega
        obtain⟨g1,g2⟩:=hcall (⟨q,fs,nm,la,tu,wrap64 (ca+1),true,0,0⟩,15) (by simp[Sd.call,hall]);have kk:=key S' (((V.setCell ⟨X.d,7,none⟩ (.int .i64 0)).setCell ⟨X.d,6,none⟩ (.bool true)).setCell ⟨X.d,8,none⟩ (.int .i64 0)) ((((Chg.refl _ _).setCell _ (.inl (by simp))).setCell _ (.inl (by simp))).setCell _ (.inl (by simp))) (by
         rw[g1,Dw.cells];exact(((hbox1.store 7 (.int .i64 0)).store 6 (.bool true)).store 8 (.int .i64 0))) (by rw[g1]) (by rw[g1]) (by rw[g1]) (by rw[g1])
        have HK:=Lib.hid kk;simp only at g2;clear g1 kk key hall h hchg hcall;subst g2;go_wp2_with fail;refine hdead.mono ?_;rintro e w1 ⟨rfl,rfl⟩;go_wp2;go_ret;exact⟨rfl,HK.out⟩
      ·obtain rfl:fa=0:=by omega
       obtain⟨g1,g2⟩:=hcall (⟨q,fs,nm,la,tu,wrap64 (ca+1),true,0,0⟩,0) (by simp[Sd.call,hall]);have kk:=key S' ((V.setCell ⟨X.d,7,none⟩ (.int .i64 0)).setCell ⟨X.d,6,none⟩ (.bool true)) (((Chg.refl _ _).setCell _ (.inl (by simp))).setCell _ (.inl (by simp))) (by
        rw[g1,Dw.cells];exact((hbox1.store 7 (.int .i64 0)).store 6 (.bool true))) (by rw[g1]) (by rw[g1]) (by rw[g1]) (by rw[g1])
       have HK:=Lib.hid kk;simp only at g2;clear g1 kk key hall h hchg hcall;subst g2;go_wp2_with fail;refine hdead.mono ?_;rintro e w1 ⟨rfl,rfl⟩;go_wp2;go_ret;exact⟨rfl,HK.out⟩
    ·obtain rfl:st=0:=by omega
     rcases Nat.lt_or_ge 0 fa with a0|a0
     ·rcases Nat.lt_or_ge 1 fa with a1|a1
      ·have t2:((fa:Int) - 1==0)=false:=by simp;omega
       obtain⟨g1,g2⟩:=hcall (⟨q,fs,nm,la,tu,wrap64 (ca+1),false,0,fa - 1⟩,0) (by simp[Sd.call,hall,show ¬(fa - 1=0) by omega,a0]);have e2:((fa - 1:Nat):Int)=(fa:Int) - 1:=by omega
       have kk:=key S' (V.setCell ⟨X.d,8,none⟩ (.int .i64 ((fa:Int) - 1))) ((Chg.refl _ _).setCell _ (.inl (by simp))) (by
        rw[g1,Dw.cells];simp only[e2];exact(hbox1.store 8 (.int .i64 ((fa:Int) - 1)))) (by rw[g1]) (by rw[g1]) (by rw[g1]) (by rw[g1])
       have HK:=Lib.hid kk;simp only at g2;clear g1 kk key hall h hchg hcall e2;subst g2;go_wp2_with fail;refine hdead.mono ?_;rintro e w1 ⟨rfl,rfl⟩;go_wp2;go_ret;exact⟨rfl,HK.out⟩
      ·obtain rfl:fa=1:=by omega
       obtain⟨g1,g2⟩:=hcall (⟨q,fs,nm,la,tu,wrap64 (ca+1),false,0,0⟩,15) (by simp[Sd.call,hall]);have kk:=key S' (V.setCell ⟨X.d,8,none⟩ (.int .i64 0)) ((Chg.refl _ _).setCell _ (.inl (by simp))) (by
        rw[g1,Dw.cells];exact(hbox1.store 8 (.int .i64 0))) (by rw[g1]) (by rw[g1]) (by rw[g1]) (by rw[g1])
       have HK:=Lib.hid kk;simp only at g2;clear g1 kk key hall h hchg hcall;subst g2;go_wp2_with fail;refine hdead.mono ?_;rintro e w1 ⟨rfl,rfl⟩;go_wp2;go_ret;exact⟨rfl,HK.out⟩
     ·obtain rfl:fa=0:=by omega
      obtain⟨g1,g2⟩:=hcall (⟨q,fs,nm,la,tu,wrap64 (ca+1),false,0,0⟩,0) (by simp[Sd.call,hall]);have kk:=key S' V (Chg.refl _ _) (by
       rw[g1,Dw.cells];exact hbox1) (by rw[g1]) (by rw[g1]) (by rw[g1]) (by rw[g1])
      have HK:=Lib.hid kk;simp only at g2;clear g1 kk key hall h hchg hcall;subst g2;go_wp2_with fail;refine hdead.mono ?_;rintro e w1 ⟨rfl,rfl⟩;go_wp2;go_ret;exact⟨rfl,HK.out⟩
end
section
open Go Go.RowKit Go.Maps
def sumL (f:DataW Unit→Nat) (left:Lit→Bool) (es:List (Lit×DataW Unit)):Nat:=((es.filter fun p=>!left p.1).map fun p=>f p.2).sum
theorem oj2 (f:DataW Unit→Nat) (left:Lit→Bool):∀(es:List (Lit×DataW Unit)),es.Pairwise (fun p q=>p.1≠q.1)→(∀p∈es,WideAt.IsKeyLit p.1)→∀p0∈es,left p0.1=true→sumL f (fun z=>left z&&!z.sameKey p0.1) es=sumL f left es+f p0.2
 |[],_,_,p0,h,_=>by cases h
 |q::r,hp,hk,p0,h,hl=>by
  obtain⟨h1,h2⟩:=List.pairwise_cons.1 hp
  rcases List.mem_cons.1 h with rfl|h
  ·have e1:sumL f (fun z=>left z&&!z.sameKey p0.1) r=sumL f left r:=by
    unfold sumL
    congr 2
    apply List.filter_congr;intro x hx;have e:=Maps.sameKey_ne (h1 x hx).symm;simp[e]
   have e2:=WideAt.sameKey_self (hk p0 (by simp));have e3:sumL f (fun z=>left z&&!z.sameKey p0.1) (p0::r)=f p0.2+sumL f (fun z=>left z&&!z.sameKey p0.1) r:=by simp[sumL,e2]
   have e4:sumL f left (p0::r)=sumL f left r:=by simp[sumL,hl]
   omega
  ·have ih:=oj2 f left r h2 (fun p hp'=>hk p (by simp[hp'])) p0 h hl
   have e1:q.1.sameKey p0.1=false:=Maps.sameKey_ne (h1 p0 h);have e3:sumL f (fun z=>left z&&!z.sameKey p0.1) (q::r)=(if left q.1=true then 0 else f q.2)+sumL f (fun z=>left z&&!z.sameKey p0.1) r:=by
    cases hq:left q.1<;>simp[sumL,e1,hq]
   have e4:sumL f left (q::r)=(if left q.1=true then 0 else f q.2)+sumL f left r:=by
    cases hq:left q.1<;>simp[sumL,hq]
   omega
theorem wx3 (f:DataW Unit→Nat) (left:Lit→Bool):∀es:List (Lit×DataW Unit),sumL f left es≤(es.map fun p=>f p.2).sum
 |[]=>by simp[sumL]
 |q::r=>by
  have ih:=wx3 f left r;have e4:sumL f left (q::r)=(if left q.1=true then 0 else f q.2)+sumL f left r:=by
   cases hq:left q.1<;>simp[sumL,hq]
  simp only[List.map_cons,List.sum_cons];split at e4<;>omega
theorem iz4 (f:DataW Unit→Nat) (left:Lit→Bool) (es:List (Lit×DataW Unit)) (h:∀k,left k=false):sumL f left es=(es.map fun p=>f p.2).sum:=by
 unfold sumL;rw[List.filter_eq_self.2 (fun p _=>by simp[h])]
theorem rk3 (f:DataW Unit→Nat) (left:Lit→Bool) (es:List (Lit×DataW Unit)) (h:∀p∈es,left p.1=true):sumL f left es=0:=by
 unfold sumL;rw[List.filter_eq_nil_iff.2 (fun p hp=>by simp[h p hp])];rfl
def key (s:ByteArray):Lit:=.string s.data.toList
theorem xw {k:Value} {kl:Lit} (h:keyOf Tryz.prog 9 k=some kl):∃s,k=.string s∧kl=key s:=by
 obtain⟨s,e1,e2,_⟩:=Go.WideMaps.string_of_keyOf Tryz.underlying9 h;exact⟨s,e1,e2⟩
def lenOf (fs:List (List UInt8×Nat)) (x:DataW Unit):Nat:=match x with
 |.lit (.int _ c)=>(fs.getD c.toNat ([],0)).1.length
 |_=>0
theorem uq4 (S:Sd):S.used=((S.names.map Nm.lit1).map fun p=>lenOf S.files p.2).sum:=by
 unfold Sd.used;rw[List.map_map];rfl
theorem mz4 (X:Dw) (S:Sd) (w:World) (h:DK w X S) (hl:Sd.fz1 S.names S.files.length) (hu:S.used≤1099511627776):
  Calls Tryz.prog 76 #[.pointer (some ⟨X.d,0,none⟩)] w fun e w'=>e=.returned (.int .i64 (S.used:Int))∧Below w.heap.size w w':=by
 have hbox:=h.box;have d2:=hbox.cell 2;simp only[Dw.cells,gE0,gE1]at d2;have hnm:=h.names;obtain⟨es,hes0,hpw,hkl⟩:=hnm.entries jj1;have hes:es=S.names.map Nm.lit1:=by
  unfold Nm.enc at hes0;injection hes0 with hes0;exact hes0.symm
 clear hes0;have hus:S.used=(es.map fun p=>lenOf S.files p.2).sum:=by rw[hes,uq4]
 have HES:=Lib.hid hes;obtain⟨U,hU⟩:∃U,U=S.used:=⟨_,rfl⟩;rw[←hU]at hus hu ⊢;have HUS:=Lib.hid hus;clear hus hes hU;obtain⟨M,hM⟩:∃M,M=Nm.enc S.names:=⟨_,rfl⟩;have hown:w.ownsMap Tryz.prog 9 (plainElem (H:=Unit) Tryz.prog 3) X.nb S.names.length M:=by rw[hM];exact hnm
 have HM:Hid (M=.map es):=by rw[hM,HES.out];exact rfl
 have HMN:=Lib.hid hM;clear hM hnm;go_enter Tryz.func76,Tryz.ntmps76;go_wp2_with (first
  |(at_range;refine wpList_range_own _ rfl _ 90 rfl 9 3 jj1 Tryz.underlying90 _ X.nb _ M rfl hown ?_;intro w0 hrg0 hg0 hs0)
  |go_in)
 go_frame
 have hb0:Below w.heap.size w w0:=(Below.refl _ _).grown hg0 (Nat.le_refl _) (fun k hk=>by cases hk)
 go_loopw [3] (fun s wr=>∃(left:Lit→Bool) (cnt:Nat),s=.int .i64 (sumL (lenOf S.files) left es:Int)∧wr.ranges Tryz.prog 9 (plainElem (H:=Unit) Tryz.prog 3) X.nb w.heap.size S.names.length M left cnt∧Below w.heap.size w wr) (fun _ wr=>wr.rangeLeft X.nb w.heap.size)
 case atStart=>
  refine⟨_,_,?_,hrg0,hb0⟩;rw[rk3 _ _ _ (fun p hp=>by
   rw[HM.out,Maps.has_eq,List.any_eq_true];exact⟨p,hp,WideAt.sameKey_self (hkl p hp)⟩)]
  rfl
 case round=>
  obtain⟨left,cnt,rfl,hrg,hb⟩:=hrel;go_wp2_with (first
   |(at_next;refine wpList_next_ranges _ rfl _ rfl 9 jj1 _ Value.string (Value.int .i64) ?invK ?invV X.nb w.heap.size _ M left cnt rfl hrg ?hDone ?hMore)
   |go_in)
  case invK=>exact fun key kl hk=>by obtain⟨s,rfl,_⟩:=xw hk;exact⟨s,rfl⟩
  case invV=>exact fun v y hv=>by obtain⟨c,rfl,_⟩:=plainElem_int_inv Tryz.underlying3 hv;exact⟨c,rfl⟩
  case hDone=>
   intro _ hl0;rw[iz4 _ _ _ hl0,←show U=_ from HUS.out];go_wp2;go_ret;exact⟨rfl,hb⟩
  case hMore=>
   intro x c kl y yp w1 cnt1 hkey hlx hv hat hrg1 hlt hg1 hs1 hen;obtain⟨s,hxs,hkl2⟩:=xw hkey
   cases hxs
   have hb1:Below w.heap.size w w1:=hb.grown hg1 hb.size (fun j hj=>by cases hj;exact Nat.le_refl _);have hD1:=h.below hb1;have hhas:Maps.has M kl=true:=Maps.has_true_of_atKey hat;subst hkl2;unfold key at hhas hat hlx hrg1;obtain⟨i,hgi⟩:∃i,S.names.get x.data.toList=some i:=by
    rw[show M=_ from HMN.out,Nm.zz1]at hhas;exact Option.isSome_iff_exists.1 hhas
   have hi:=hl _ (Nm.get_mem hgi);simp only at hi;have hia:=fun z=>Nm.ox2 S.names x.data.toList z hgi;have hy:y=.lit (.int .i64 (i:Int)):=by rw[←hat .nil,show M=_ from HMN.out,hia]
   obtain⟨c',hc',hy2,_⟩:=plainElem_int_inv Tryz.underlying3 hv
   cases hc'
   have hci:c=(i:Int):=by
    have h2:=congrArg Prod.fst hy2;simp only at h2;rw[h2]at hy;injection hy with hy;injection hy with _ hy
   subst hci;have hp0:Nm.lit1 (x.data.toList,i)∈es:=by
    rw[show es=_ from HES.out];exact List.mem_map.2 ⟨_,Nm.get_mem hgi,rfl⟩
   have hstep:=oj2 (lenOf S.files) left es hpw hkl _ hp0 hlx;have hle:=wx3 (lenOf S.files) (fun z=>left z&&!z.sameKey (.string x.data.toList)) es;simp only[Nm.lit1]at hstep;have hip:i < X.ps.length:=by rw[h.flen];exact hi
   have hfl:lenOf S.files (.lit (.int .i64 (i:Int)))=(S.files[i]).1.length:=by simp[lenOf,hi]
   rw[hfl]at hstep;obtain⟨hfb,hfr⟩:=hD1.file i hi hip;have e1:=hD1.box.cell 1;simp only[Dw.cells,gE0,gE1]at e1;obtain⟨g,cap,hg9,hcell,hbig⟩:=hD1.fileAt hi;rw[hg9]at e1;have hptr:X.ps.getD i (0,Go.undef)=X.ps[i]:=by simp[List.getD_eq_getElem?_getD,hip]
   rw[hptr]at hcell;unfold ptrV at hcell;have e0:=hfb.cell 0;simp only[gE0]at e0;obtain⟨fA,fc,hfv2,_,_,_⟩:=ay hfr;rw[hfv2]at e0;have hi':(i:Int) < (S.files.length:Int):=by omega
   have hus:U=(es.map fun p=>lenOf S.files p.2).sum:=HUS;have hsb:sumL (lenOf S.files) left es+S.files[i].1.length≤1099511627776:=by omega
   have HST:=Lib.hid hstep;generalize (S.files[i]).1.length=F at *;generalize hS:sumL (lenOf S.files) left es=T at *;clear hus hstep hle hat hia hv hy2 hfr hfb hptr hgi hp0 hg9;go_wp2;go_roundw
   case rel=>exact⟨_,cnt1,by rw[HST.out];simp,hrg1,hb1⟩
   case measure=>rw[hrg1.left_eq,hrg.left_eq];exact hlt
end
section
open Go Go.RowKit Go.Maps
def cy3 (t:Tn):Value:=.agg #[.int .i64 (t.kind:Int),.int .i64 (t.file:Int),.string (str t.a),.string (str t.b)]
theorem wj3 (k f:Nat) (a b:List UInt8) (ha:a.length≤maxLen) (hb:b.length≤maxLen) (hf:f≤9223372036854775807) (nb n:Nat) (M:Nm) (w:World) (h:qj w nb n M) (hn:n < maxLen) (hk:k=1∨k=2∨k=3):
  Calls Tryz.prog 63 #[cy3 ⟨k,f,a,b⟩,.map (some nb)] w fun e w'=>e=.returned (.tuple #[])∧qj w' nb (n+1) (Tn.go ⟨k,f,a,b⟩ M)∧Chg [nb] w w':=by
 have hka:keyOf Tryz.prog 9 (.string (str a))=some (.string a):=by rw[pv3 (by rw[qx];exact ha),rq]
 have hkb:keyOf Tryz.prog 9 (.string (str b))=some (.string b):=by rw[pv3 (by rw[qx];exact hb),rq]
 have hlt:=h.lt;unfold cy3;simp only
 rcases hk with rfl|rfl|rfl
 ·have hgo:Tn.go ⟨1,f,a,b⟩ M=M.put a f:=rfl
  rw[hgo];have hwf:(Lit.int .i64 (f:Int)).wf=true:=WalkArith.wf_i64 (by omega);have HP:=Lib.hid (Nm.mq2 M a f);go_enter Tryz.func63,Tryz.ntmps63;go_wp2_with (at_mapUpdate;refine wpList_mapUpdate_own _ rfl _ _ _ 90 rfl 9 3 jj1 Tryz.underlying90 _ nb n _ rfl (h.alloc _) hn _ _ _ rfl rfl hka _ [] (plainElem_int Tryz.underlying3 hwf) ?_;intro w1 hown1 hgrow1);have hc:Chg [nb] w w1:=(Chg.refl [nb] w|>.alloc _).trans (Chg.uy (F:=[nb]) hgrow1 (fun b hb=>by cases hb;simp)) (fun g hg=>.inl hg);rw[HP.out]at hown1;go_wp2;exact bodyPost_end (v:=.tuple #[]) (by simp[results,go_sem]) rfl ⟨rfl,hown1,hc⟩
 ·cases hg:M.get a with
  |none=>
   have hgo:Tn.go ⟨2,f,a,b⟩ M=M:=by unfold Tn.go;simp[hg]
   rw[hgo];have HH:Hid (Maps.has (Nm.enc M) (.string a)=false):=by
    have:=Nm.zz1 M a;rw[hg]at this;exact this
   clear hgo hg;go_enter Tryz.func63,Tryz.ntmps63;go_wp2_with (at_lookup;refine wpList_lookup_own_ok_int _ rfl _ _ 90 rfl 9 3 .i64 jj1 Tryz.underlying90 Tryz.underlying3 (zj1 _) nb _ _ rfl (h.alloc _) _ _ rfl hka ?_;intro c hat hwc;rw[HH.out]);have hc:Chg [nb] w (w.alloc (.cells #[.int .i64 2,.int .i64 (f:Int),.string (str a),.string (str b)] 118)):=(Chg.refl [nb] w).alloc _;go_wp2;exact bodyPost_end (v:=.tuple #[]) (by simp[results,go_sem]) rfl ⟨rfl,(h.alloc _).mono (by omega),hc⟩
  |some i=>
   have hgo:Tn.go ⟨2,f,a,b⟩ M=(M.put b i).del a:=by unfold Tn.go;simp[hg]
   rw[hgo];have HH:Hid (Maps.has (Nm.enc M) (.string a)=true):=by
    have:=Nm.zz1 M a;rw[hg]at this;exact this
   have HA:=Lib.hid (fun z=>Nm.ox2 M a z hg);have HP:=Lib.hid (Nm.mq2 M b i);have HD:=Lib.hid (Nm.zv3 (M.put b i) a);clear hgo;go_enter Tryz.func63,Tryz.ntmps63;go_wp2_with (first
    |(at_lookup;refine wpList_lookup_own_ok_int _ rfl _ _ 90 rfl 9 3 .i64 jj1 Tryz.underlying90 Tryz.underlying3 (zj1 _) nb _ _ rfl (h.alloc _) _ _ rfl hka ?_;intro c hat hwc;rw[HA.out]at hat;injection hat with hat;injection hat with _ hat;subst hat;rw[HH.out])
    |(at_mapUpdate;refine wpList_mapUpdate_own _ rfl _ _ _ 90 rfl 9 3 jj1 Tryz.underlying90 _ nb n _ rfl (h.alloc _) hn _ _ _ rfl rfl hkb _ [] (plainElem_int Tryz.underlying3 hwc) ?_;intro w1 hown1 hgrow1;have hc1:Chg [nb] w w1:=(Chg.refl [nb] w|>.alloc _).trans (Chg.uy (F:=[nb]) hgrow1 (fun b hb=>by cases hb;simp)) (fun g hg=>.inl hg);have hq2:w1.cell? ⟨w.heap.size,2,none⟩=some (.string (str a)):=(World.cell?_of_block (hgrow1.block w.heap.size (by simp) (fun e=>by injection e with e;omega))).trans (by rw[World.cell?_alloc_at _ _ _ _ rfl];rfl))
    |(at_delete;refine wpList_delete_own _ rfl _ _ 90 9 rfl 3 jj1 Tryz.underlying90 _ nb (n+1) _ rfl hown1 _ _ rfl hka ?_;intro w2 hown2 hturn2))
   have hc:Chg [nb] w w2:=hc1.trans (Chg.uy (F:=[nb]) hturn2.grown (fun b hb=>by cases hb;simp)) (fun g hg=>.inl hg);rw[HP.out,HD.out]at hown2;go_wp2;exact bodyPost_end (v:=.tuple #[]) (by simp[results,go_sem]) rfl ⟨rfl,hown2,hc⟩
 ·have hgo:Tn.go ⟨3,f,a,b⟩ M=M.del a:=rfl
  rw[hgo];have HD:=Lib.hid (Nm.zv3 M a);go_enter Tryz.func63,Tryz.ntmps63;go_wp2_with (at_delete;refine wpList_delete_own _ rfl _ _ 90 9 rfl 3 jj1 Tryz.underlying90 _ nb n _ rfl (h.alloc _) _ _ rfl hka ?_;intro w1 hown1 hturn1);have hc:Chg [nb] w w1:=(Chg.refl [nb] w|>.alloc _).trans (Chg.uy (F:=[nb]) hturn1.grown (fun b hb=>by cases hb;simp)) (fun g hg=>.inl hg);rw[HD.out]at hown1;go_wp2;exact bodyPost_end (v:=.tuple #[]) (by simp[results,go_sem]) rfl ⟨rfl,hown1.mono (by omega),hc⟩
end
section
open Go Go.RowKit
namespace Sd
variable {d:Sd}
theorem ej2 (d:Sd) (l:List (List UInt8)):(d.call l=(d,10)∧l.all named=false)∨∃de st fa er,d.call l=({ d with calls:=wrap64 (d.calls+1),dead:=de,stop:=st,fail:=fa },er)∧l.all named=true∧st≤d.stop∧fa≤d.fail∧(er=0∨er=15∨er=50):=by
 cases hl:l.all named with
 |false=>exact .inl ⟨by simp[call,hl],rfl⟩
 |true=>
  refine .inr ?_
  cases hd:d.dead with
  |true=>exact⟨true,d.stop,d.fail,50,by simp[call,hl,hd],rfl,Nat.le_refl _,Nat.le_refl _,.inr (.inr rfl)⟩
  |false=>
   by_cases hs:0 < d.stop<;>by_cases hf:0 < d.fail<;>by_cases h1:d.fail - 1=0
   all_goals first
    |exact⟨_,d.stop - 1,d.fail - 1,_,by simp only[call,hl,hd,hs,hf,h1,if_true,if_false];rfl,rfl,by omega,by omega,by simp⟩
    |exact⟨_,d.stop - 1,d.fail,_,by simp only[call,hl,hd,hs,hf,h1,if_true,if_false];rfl,rfl,by omega,by omega,by simp⟩
    |exact⟨_,d.stop,d.fail - 1,_,by simp only[call,hl,hd,hs,hf,h1,if_true,if_false];rfl,rfl,by omega,by omega,by simp⟩
    |exact⟨_,d.stop,d.fail,_,by simp only[call,hl,hd,hs,hf,h1,if_true,if_false];rfl,rfl,by omega,by omega,by simp⟩
theorem iy (d:Sd) (l:List (List UInt8)):(d.call l).1.names=d.names∧(d.call l).1.lasted=d.lasted∧(d.call l).1.files=d.files∧(d.call l).1.turns=d.turns∧(d.call l).1.quota=d.quota∧(d.call l).1.stop≤d.stop∧(d.call l).1.fail≤d.fail:=by
 rcases ej2 d l with ⟨h,_⟩|⟨de,st,fa,er,h,_,h1,h2,_⟩ <;>rw[h]
 ·exact⟨rfl,rfl,rfl,rfl,rfl,Nat.le_refl _,Nat.le_refl _⟩
 ·exact⟨rfl,rfl,rfl,rfl,rfl,h1,h2⟩
theorem Wf.call (h:d.Wf) (l:List (List UInt8)):(d.call l).1.Wf:=by
 obtain⟨e1,e2,e3,e4,e5,e6,e7⟩:=iy d l;obtain⟨a1,a2,a3,a4,a5,a6,a7,a8,b1,b2,b3,a9,a10⟩:=h;exact⟨by rw[e5];exact a1,by rw[e3];exact a2,by rw[e1,e3];exact a3,by rw[e2,e3];exact a4,by rw[e1];exact a5,by rw[e2];exact a6,by rw[e1];exact a7,by rw[e3,e4];exact a8,by rw[e1];exact b1,by rw[e2];exact b2,by rw[e4];exact b3,by omega,by omega⟩
theorem aj1 (d:Sd) (l:List (List UInt8)):(d.call l).1.load=d.load:=by
 obtain⟨e1,e2,e3,e4,e5,_⟩:=iy d l;simp[load,e3,e4]
theorem yz3 (d:Sd) (l:List (List UInt8)):(d.call l).1.used=d.used:=by
 obtain⟨e1,e2,e3,e4,e5,_⟩:=iy d l;simp[used,size,e1,e3]
theorem size_le (h:d.Wf) (i:Nat):d.size i≤250000:=by
 unfold size
 by_cases hi:i < d.files.length
 ·have:=(h.file i hi).2
  simp[List.getD_eq_getElem?_getD,hi];exact this
 ·simp[List.getD_eq_getElem?_getD,Nat.le_of_not_lt hi]
theorem wk4 (h:d.Wf):d.used≤16000000:=by
 have hm:=h.most;have hs:=size_le h;unfold used;have:∀m:Nm,(m.map fun p=>d.size p.2).sum≤m.length *250000:=by
  intro m
  induction m with
  |nil=>simp
  |cons p r ih=>
   have:=hs p.2;simp only[List.map_cons,List.sum_cons,List.length_cons];omega
 have:=this d.names;omega
theorem fz1.mono {m:Nm} {n k:Nat} (h:fz1 m n) (hk:n≤k):fz1 m k:=fun p hp=>Nat.lt_of_lt_of_le (h p hp) hk
theorem fz1.put {m:Nm} {n:Nat} (h:fz1 m n) (s:List UInt8) {i:Nat} (hi:i < n):fz1 (m.put s i) n:=by
 intro p hp
 rcases Nm.kz.1 hp with rfl|⟨hp,_⟩
 ·exact hi
 ·exact h p hp
theorem fz1.del {m:Nm} {n:Nat} (h:fz1 m n) (s:List UInt8):fz1 (m.del s) n:=fun p hp=>h p (Nm.vw.1 hp).1
theorem fz1.go {m:Nm} {n:Nat} (h:fz1 m n) (t:Tn) (ht:t.kind=1→t.file < n):fz1 (t.go m) n:=by
 unfold Tn.go;split
 ·exact h.put _ (ht ‹_›)
 ·split
  ·split
   ·rename_i i hg
    exact(h.put _ (h _ (Nm.get_mem hg))).del _
   ·exact h
  ·split
   ·exact h.del _
   ·exact h
theorem ux1 {m:Nm} (h:Nm.Apart m) (t:Tn):Nm.Apart (t.go m):=by
 unfold Tn.go;split
 ·exact Nm.ax1 h _ _
 ·split
  ·split
   ·exact Nm.pw1 (Nm.ax1 h _ _) _
   ·exact h
  ·split
   ·exact Nm.pw1 h _
   ·exact h
theorem zj3 {m:Nm} (h:Nm.Apart m) (t:Tn) (hk:t.kind≠1) (hne:t.a≠t.b):(t.go m).length≤m.length:=by
 unfold Tn.go;rw[if_neg hk];split
 ·split
  ·rename_i i hg
   have h1:((m.put t.b i).get t.a)=some i:=by rw[Nm.nz h hne];exact hg
   have h2:=Nm.ik1 h1;have h3:=Nm.av1 m t.b i;omega
  ·exact Nat.le_refl _
 ·split
  ·exact Nm.gq1 _ _
  ·exact Nat.le_refl _
theorem rk4 (q:Int) (h:q≤1099511627776):(new q).Wf:=
 ⟨by simp[new];omega,fun i h=>by simp[new]at h,fun p hp=>(by cases hp),fun p hp=>(by cases hp),List.Pairwise.nil,List.Pairwise.nil,by simp[new],fun t ht=>(by cases ht),fun p hp=>(by cases hp),fun p hp=>(by cases hp),fun t ht=>(by cases ht),by simp[new],by simp[new]⟩
theorem gx4 {s:List UInt8} (h:named s=true):s≠[]:=by
 intro e;subst e;simp[named]at h
theorem ck3 {l:List (List UInt8)} (h:(d.call l).2=0):l.all named=true:=by
 rcases ej2 d l with ⟨e,_⟩|⟨de,st,fa,er,_,h1,_⟩
 ·rw[e]at h;cases h
 ·exact h1
theorem Wf.create (h:d.Wf) (s:List UInt8):(d.create s).1.Wf:=by
 have hc:=h.call [s];obtain⟨e1,e2,e3,e4,e5,e6,e7⟩:=iy d [s];unfold Sd.create
 dsimp only
 split
 ·exact hc
 ·rename_i h0
  have hs:named s=true:=by simpa using ck3 (Decidable.not_not.1 h0)
  split
  ·exact hc
  ·split
   ·exact hc
   ·rename_i hn hm
    obtain⟨a1,a2,a3,a4,a5,a6,a7,a8,b1,b2,b3,a9,a10⟩:=h;have hl:=Nm.av1 d.names s d.files.length;refine⟨by rw[e5];exact a1,fun i hi=>?_,?_,?_,Nm.ax1 a5 _ _,by rw[e2];exact a6,by dsimp only;omega,?_,?_,by rw[e2];exact b2,?_,by dsimp only;omega,by dsimp only;omega⟩
    ·dsimp only at hi ⊢
     rcases Nat.lt_or_ge i d.files.length with h1|h1
     ·rw[List.getElem_append_left h1];exact a2 i h1
     ·rw[List.getElem_append_right h1]
      simp
    ·exact(a3.mono (by simp)).put _ (by simp)
    ·dsimp only
     rw[e2];exact a4.mono (by simp)
    ·intro t ht
     simp only[List.mem_append,List.mem_singleton]at ht
     rcases ht with ht|rfl
     ·have:=a8 t ht
      simp only[List.length_append,List.length_singleton];exact⟨by omega,fun hk=>by have:=this.2 hk;omega⟩
     ·simp
    ·intro p hp
     rcases Nm.kz.1 hp with rfl|⟨hp,_⟩
     ·exact hs
     ·exact b1 p hp
    ·intro t ht
     simp only[List.mem_append,List.mem_singleton]at ht
     rcases ht with ht|rfl
     ·exact b3 t ht
     ·exact⟨hs,fun e=>(by cases e),.inl rfl⟩
theorem Wf.jy (h:d.Wf) (i:Nat) (f:List UInt8×Nat) (h1:f.2≤f.1.length) (h2:f.1.length≤250000):({ d with files:=d.files.set i f }:Sd).Wf:=by
 obtain⟨a1,a2,a3,a4,a5,a6,a7,a8,b1,b2,b3,a9,a10⟩:=h;refine⟨a1,fun j hj=>?_,by simpa using a3,by simpa using a4,a5,a6,a7,by simpa using a8,b1,b2,b3,a9,a10⟩;simp only[List.length_set]at hj;simp only[List.getElem_set];split
 ·exact⟨h1,h2⟩
 ·exact a2 j hj
theorem yy1 (h:d.Wf) {i:Nat} (hi:i < d.files.length):(d.files.getD i ([],0)).2≤(d.files.getD i ([],0)).1.length∧(d.files.getD i ([],0)).1.length≤250000:=by
 have:=h.file i hi;simpa [List.getD_eq_getElem?_getD,hi] using this
theorem Wf.append (h:d.Wf) (s b:List UInt8):(d.append s b).1.Wf:=by
 have hc:=h.call [s];obtain⟨e1,e2,e3,e4,e5,e6,e7⟩:=iy d [s];unfold Sd.append
 dsimp only
 split
 ·exact hc
 ·split
  ·exact hc
  ·rename_i i hg
   split
   ·exact hc
   ·rename_i hlen
    split
    ·exact hc
    ·have hi:=h.names _ (Nm.get_mem hg)
     obtain⟨q1,q2⟩:(d.files.getD i ([],0)).2≤(d.files.getD i ([],0)).1.length∧(d.files.getD i ([],0)).1.length≤250000:=yy1 h hi;unfold Sd.size at hlen;have h2:=hc.jy i ((d.files.getD i ([],0)).1++b,(d.files.getD i ([],0)).2) (by simp only[List.length_append];omega) (by simp only[List.length_append];omega)
     rwa [e3]at h2
theorem Wf.sync (h:d.Wf) (s:List UInt8):(d.sync s).1.Wf:=by
 have hc:=h.call [s];obtain⟨e1,e2,e3,e4,e5,e6,e7⟩:=iy d [s];unfold Sd.sync
 dsimp only
 split
 ·exact hc
 ·split
  ·exact hc
  ·rename_i i hg
   have hi:i < d.files.length:=h.names _ (Nm.get_mem hg);have:=yy1 h hi;have h2:=hc.jy i ((d.files.getD i ([],0)).1,d.size i) (by simp[Sd.size]) this.2
   rwa [e3]at h2
theorem ez3 {m:Nm} (h:∀p∈m,named p.1=true) (t:Tn) (ht:named t.a=true∧(t.kind=2→named t.b=true)):∀p∈t.go m,named p.1=true:=by
 intro p hp;unfold Tn.go at hp;split at hp
 ·rcases Nm.kz.1 hp with rfl|⟨hp,_⟩
  ·exact ht.1
  ·exact h p hp
 ·split at hp
  ·split at hp
   ·rcases Nm.kz.1 (Nm.vw.1 hp).1 with rfl|⟨hp,_⟩
    ·exact ht.2 ‹_›
    ·exact h p hp
   ·exact h p hp
  ·split at hp
   ·exact h p (Nm.vw.1 hp).1
   ·exact h p hp
theorem Wf.lx1 (h:d.Wf) (t:Tn) (hk:t.kind≠1) (hf:t.file=0) (hne:t.a≠t.b) (hg:named t.a=true∧(t.kind=2→named t.b=true)∧(t.kind=1∨t.kind=2∨t.kind=3)):({ d with names:=t.go d.names,turns:=d.turns++[t] }:Sd).Wf:=by
 obtain⟨a1,a2,a3,a4,a5,a6,a7,a8,b1,b2,b3,a9,a10⟩:=h;refine⟨a1,a2,a3.go t (fun e=>absurd e hk),a4,ux1 a5 t,a6,Nat.le_trans (zj3 a5 t hk hne) a7,fun u hu=>?_,ez3 b1 t ⟨hg.1,hg.2.1⟩,b2,fun u hu=>?_,a9,a10⟩
 ·simp only[List.mem_append,List.mem_singleton]at hu
  rcases hu with hu|rfl
  ·exact a8 u hu
  ·exact⟨by rw[hf];exact Nat.zero_le _,fun e=>absurd e hk⟩
 ·simp only[List.mem_append,List.mem_singleton]at hu
  rcases hu with hu|rfl
  ·exact b3 u hu
  ·exact hg
theorem Wf.rename (h:d.Wf) (a b:List UInt8):(d.rename a b).1.Wf:=by
 have hc:=h.call [a,b];obtain⟨e1,e2,e3,e4,e5,e6,e7⟩:=iy d [a,b];unfold Sd.rename
 dsimp only
 split
 ·exact hc
 ·rename_i h0
  have hs:named a=true∧named b=true:=by simpa using ck3 (Decidable.not_not.1 h0)
  split
  ·exact hc
  ·split
   ·exact hc
   ·rename_i hne
    have h2:=hc.lx1 ⟨2,0,a,b⟩ (by simp) rfl hne ⟨hs.1,fun _=>hs.2,.inr (.inl rfl)⟩
    rwa [e1,e4]at h2
theorem Wf.remove (h:d.Wf) (s:List UInt8):(d.remove s).1.Wf:=by
 have hc:=h.call [s];obtain⟨e1,e2,e3,e4,e5,e6,e7⟩:=iy d [s];unfold Sd.remove
 dsimp only
 split
 ·exact hc
 ·rename_i h0
  split
  ·exact hc
  ·have hs:named s=true:=by simpa using ck3 (Decidable.not_not.1 h0)
   have h2:=hc.lx1 ⟨3,0,s,[]⟩ (by simp) rfl (gx4 hs) ⟨hs,fun e=>(by cases e),.inr (.inr rfl)⟩
   rwa [e1,e4]at h2
theorem Wf.ax (h:d.Wf):(d.ax).1.Wf:=by
 have hc:=h.call [];obtain⟨e1,e2,e3,e4,e5,e6,e7⟩:=iy d [];unfold Sd.ax
 dsimp only
 split
 ·exact hc
 ·obtain⟨a1,a2,a3,a4,a5,a6,a7,a8,b1,b2,b3,a9,a10⟩:=hc
  rw[e1]at a3 a5;rw[e1]at b1;exact⟨a1,a2,by rw[e1];exact a3,a3,by rw[e1];exact a5,a5,a7,fun t ht=>(by cases ht),by rw[e1];exact b1,b1,fun t ht=>(by cases ht),a9,a10⟩
end Sd
end
section
open Go Go.RowKit Go.Maps
theorem jw4 (X:Dw) (S:Sd) (s:ByteArray) (hs:s.size≤maxLen) (hw:S.Wf) (w:World) (h:DK w X S):
  Calls Tryz.prog 75 #[.pointer (some ⟨X.d,0,none⟩),.slice (some ⟨w.heap.size,0,none⟩) 1 1] (w.alloc (.cells #[.string s] 9)) fun e w'=>e=.returned (.int .i64 ((S.call [s.data.toList]).2:Int))∧DK w' X (S.call [s.data.toList]).1∧Chg [X.d] w w':=by
 have hb:Below w.heap.size w (w.alloc (.cells #[.string s] 9)):=(Below.refl _ _).alloc (Nat.le_refl _) _;refine(nq2 X S (some ⟨w.heap.size,0,none⟩) 1 1 [s] (by omega) (by simpa using hs) hw.stop hw.fail _ (h.below hb) ?_).mono ?_
 ·exact(Row.new w #[.string s] 9 (n:=1) (size:=1) rfl).up (by simp)
 ·rintro e w' ⟨rfl,h1,h2⟩
  exact⟨rfl,h1,(Chg.of_below hb [X.d]).trans h2 (fun g hg=>.inl hg)⟩
theorem vq1 (X:Dw) (S:Sd) (s:ByteArray) (hs:s.size≤maxLen) (hw:S.Wf) (w:World) (h:DK w X S):
  Calls Tryz.prog 25 #[.pointer (some ⟨X.d,0,none⟩),.string s] w fun e w'=>∃A c,e=.returned (.tuple #[.slice A (S.read s.data.toList).1.length c,.int .i64 ((S.read s.data.toList).2:Int)])∧
   w'.ownsRow w.heap.size 5 1 (.slice A (S.read s.data.toList).1.length c) (S.read s.data.toList).1.length (bts (S.read s.data.toList).1)∧Below w.heap.size w w':=by
 have nil:=fun W:World=>World.ownsRow_nil W w.heap.size 5 1;have hnm:=zq1 s hs w;have hdd:=jj2 X.d S.dead w (by rw[h.box.cell 6];rfl);have hfd:=find_any X S s hs w h hw.names
 cases h1:Sd.named s.data.toList with
 |false=>
  have e1:S.read s.data.toList=([],10):=by simp[Sd.read,h1]
  rw[e1];rw[h1]at hnm;clear h1 e1;go_enter Tryz.func25,Tryz.ntmps25;go_wp2_with fail;refine hnm.mono ?_;rintro e w1 ⟨rfl,rfl⟩;go_wp2;go_ret2;exact⟨_,_,rfl,nil w,Below.refl _ _⟩
 |true=>
  rw[h1]at hnm
  cases h2:S.dead with
  |true=>
   have e1:S.read s.data.toList=([],50):=by simp[Sd.read,h1,h2]
   rw[e1];rw[h2]at hdd;clear h1 h2 e1;go_enter Tryz.func25,Tryz.ntmps25;go_wp2_with fail;refine hnm.mono ?_;rintro e w1 ⟨rfl,rfl⟩;go_wp2_with fail;refine hdd.mono ?_;rintro e w1 ⟨rfl,rfl⟩;go_wp2;go_ret2;exact⟨_,_,rfl,nil w,Below.refl _ _⟩
  |false=>
   rw[h2]at hdd
   cases h3:S.names.get s.data.toList with
   |none=>
    have e1:S.read s.data.toList=([],11):=by simp[Sd.read,h1,h2,h3]
    rw[e1];rw[h3]at hfd;clear h1 h2 h3 e1;go_enter Tryz.func25,Tryz.ntmps25;go_wp2_with fail;refine hnm.mono ?_;rintro e w1 ⟨rfl,rfl⟩;go_wp2_with fail;refine hdd.mono ?_;rintro e w1 ⟨rfl,rfl⟩;go_wp2_with fail;refine hfd.mono ?_;rintro e w1 ⟨rfl,rfl⟩;go_wp2;go_ret2;exact⟨_,_,rfl,nil w,Below.refl _ _⟩
   |some i=>
    have hi:i < S.files.length:=hw.names _ (Nm.get_mem h3);have hip:i < X.ps.length:=by rw[h.flen];exact hi
    have e1:S.read s.data.toList=(S.files[i].1,0):=by simp[Sd.read,h1,h2,h3,hi]
    rw[e1];rw[h3]at hfd;have hptr:X.ps.getD i (0,Go.undef)=X.ps[i]:=by simp[List.getD_eq_getElem?_getD,hip]
    simp only[hptr,ptrV]at hfd;obtain⟨hfb,hfr⟩:=h.file i hi hip;have hlen:=(hw.file i hi).2;generalize S.files[i]=f at *;generalize X.ps[i]=p at *;have e0:=hfb.cell 0;simp only[gE0]at e0;obtain⟨fA,fc,hfv2,_,_,_⟩:=ay hfr;rw[hfv2]at e0 hfr;have hrow:=Row.own hfr;obtain⟨i0,hi0,hz0,hz1,hz2⟩:=info_parts gx1;clear h1 h2 h3 e1 hptr hfv2;go_enter Tryz.func25,Tryz.ntmps25;go_wp2_with fail;refine hnm.mono ?_;rintro e w1 ⟨rfl,rfl⟩;go_wp2_with fail;refine hdd.mono ?_;rintro e w1 ⟨rfl,rfl⟩;go_wp2_with fail;refine hfd.mono ?_;rintro e w1 ⟨rfl,rfl⟩;go_wp2_with fail;refine hfd.mono ?_;rintro e w1 ⟨rfl,rfl⟩;go_wp2_with (at_builtin;refine jq ?_);refine gy (uw rfl (.const (.slice none 0 0)) (.tmp 23) _ rfl w.heap.size 5 i0 _ 1 1 Tryz.underlying56 hi0 hz0 hz1 hz2 rfl (by omega) w (Below.refl _ _) (Nat.le_refl _) rfl w.heap.size fA f.1.length fc (bts f.1) rfl hrow (ak1 _) (by unfold maxLen;omega) (by omega) ?_);intro A2 c2 w2 hown2 hb2 _ _ _;go_wp2;go_ret2;exact⟨_,_,rfl,hown2,hb2⟩
theorem Upd.after {X:Dw} {w w1 w2:World} {S2:Sd} (h1:Chg [X.d] w w1) (h2:Upd X w1 w2 S2):Upd X w w2 S2:=by
 obtain⟨X',e,h,c,hf⟩:=h2;refine⟨X',e,h,(h1.mono (fun g hg=>.inl ?_)).trans c (fun g hg=>.inl hg),fun g hg=>?_⟩
 ·rw[List.mem_singleton.1 hg]
  exact aj.2 (.inl rfl)
 ·rcases hf g hg with h3|h3
  ·exact .inl h3
  ·exact .inr (Nat.le_trans h1.size h3)
theorem Upd.called {X:Dw} {w w1:World} {S1:Sd} (h:DK w1 X S1) (h1:Chg [X.d] w w1):Upd X w w1 S1:=Upd.after h1 (Upd.same h (Chg.refl _ _))
theorem neq0 {n:Nat} (h:n≠0):(((n:Int) !=0))=true:=by simp[h]
theorem jk1 {X:Dw} {i:Nat} (hi:i < X.ps.length) {g:Nat} (hg:g∈bz X.ps[i]):g∈X.foot:=aj.2 (.inr (.inr (.inr (.inr (.inr ⟨_,List.getElem_mem hi,hg⟩)))))
theorem ky2 {X:Dw} {i:Nat} (hi:i < X.ps.length) {v:Value} {n:Nat} (hv:∀g,v.ownBlock=some g→(X.ps[i]).2.ownBlock=some g∨n≤g):∀g∈({ X with ps:=X.ps.set i ((X.ps[i]).1,v) }:Dw).foot,g∈X.foot∨n≤g:=by
 intro g hg
 rcases aj.1 hg with h|h|h|h|h|⟨p,hp,hgp⟩
 ·exact .inl (aj.2 (.inl h))
 ·exact .inl (aj.2 (.inr (.inl h)))
 ·exact .inl (aj.2 (.inr (.inr (.inl h))))
 ·exact .inl (aj.2 (.inr (.inr (.inr (.inl h)))))
 ·exact .inl (aj.2 (.inr (.inr (.inr (.inr (.inl h))))))
 ·rcases List.mem_or_eq_of_mem_set hp with h1|h1
  ·exact .inl (aj.2 (.inr (.inr (.inr (.inr (.inr ⟨p,h1,hgp⟩))))))
  ·subst h1
   simp only[bz,List.mem_cons,Option.mem_toList]at hgp
   rcases hgp with h2|h2
   ·exact .inl (jk1 hi (by simp[bz,h2]))
   ·rcases hv g h2 with h3|h3
    ·exact .inl (jk1 hi (by simp[bz,h3]))
    ·exact .inr h3
theorem sync_any (X:Dw) (S:Sd) (s:ByteArray) (hs:s.size≤maxLen) (hw:S.Wf) (w:World) (h:DK w X S):
  Calls Tryz.prog 29 #[.pointer (some ⟨X.d,0,none⟩),.string s] w fun e w'=>e=.returned (.int .i64 ((S.sync s.data.toList).2:Int))∧Upd X w w' (S.sync s.data.toList).1:=by
 have hcall:=jw4 X S s hs hw w h;have hw1:=hw.call [s.data.toList];obtain⟨e1,e2,e3,e4,e5,_,_⟩:=Sd.iy S [s.data.toList];have hsy:S.sync s.data.toList=if (S.call [s.data.toList]).2≠0 then S.call [s.data.toList] else match S.names.get s.data.toList with
  |none=>((S.call [s.data.toList]).1,11)
  |some i=>({ (S.call [s.data.toList]).1 with files:=S.files.set i ((S.files.getD i ([],0)).1,S.size i) },0):=rfl
 generalize S.call [s.data.toList]=R at *;obtain⟨S1,er⟩:=R;simp only at *
 by_cases h0:er=0
 ·subst h0
  rw[if_neg (by simp)]at hsy;have hfd:=fun w1 h1=>find_any X S1 s hs w1 h1 hw1.names
  cases h3:S.names.get s.data.toList with
  |none=>
   simp only[h3]at hsy;rw[hsy];simp only[e1,h3]at hfd;clear hsy h3 e1 e2 e3 e4 e5 hw1 hw h;go_enter Tryz.func29,Tryz.ntmps29;go_wp2_with fail;refine hcall.mono ?_;rintro e w1 ⟨rfl,h1,hc1⟩;go_wp2_with fail;refine(hfd w1 h1).mono ?_;rintro e w2 ⟨rfl,rfl⟩;go_wp2;go_ret;exact⟨rfl,Upd.called h1 hc1⟩
  |some i=>
   simp only[h3]at hsy;rw[hsy];simp only[e1,h3]at hfd;have hi:i < S1.files.length:=by rw[e3];exact hw.names _ (Nm.get_mem h3)
   have hsz:S.size i=(S1.files[i]).1.length:=by simp[Sd.size,←e3,List.getD_eq_getElem?_getD,hi]
   have hgd:(S.files.getD i ([],0)).1=(S1.files[i]).1:=by simp[←e3,List.getD_eq_getElem?_getD,hi]
   have hlen:=(hw1.file i hi).2;obtain⟨f,hf⟩:∃f,f=S1.files[i]:=⟨_,rfl⟩;rw[←hf]at hsz hgd hlen;have HE:Hid (({ S1 with files:=S.files.set i ((S.files.getD i ([],0)).1,S.size i) }:Sd)={ S1 with files:=S1.files.set i (f.1,f.1.length) }):=by
    rw[hsz,hgd,←e3];exact rfl
   rw[HE.out];have HF:=Lib.hid hf;clear hf hsy h3 e1 e2 e4 e5 e3 hsz hgd hw HE h;go_enter Tryz.func29,Tryz.ntmps29;go_wp2_with fail;refine hcall.mono ?_;rintro e w1 ⟨rfl,h1,hc1⟩;go_wp2_with fail;have hip:i < X.ps.length:=by rw[h1.flen];exact hi
   have hptr:X.ps.getD i (0,Go.undef)=X.ps[i]:=by simp[List.getD_eq_getElem?_getD,hip]
   refine(hfd w1 h1).mono ?_;rintro e w2 ⟨rfl,rfl⟩;rw[hptr];have hfile:mx1 w1 X.ps[i] f:=by rw[show f=_ from HF.out];exact h1.file i hi hip
   have hself:=h1.apart.self _ (List.getElem_mem hip);have hv:=fun g (e:(X.ps[i]).2.ownBlock=some g)=>(.inl e:(X.ps[i]).2.ownBlock=some g∨w1.heap.size≤g);have key:=fun(w2:World) (hf:mx1 w2 ((X.ps[i]).1,(X.ps[i]).2) (f.1,f.1.length)) (c:Chg (bz X.ps[i]) w1 w2)=>DK.jy h1 hip hf c hv;have hfo:=ky2 hip hv;have hffo:=fun g hg=>jk1 (X:=X) (i:=i) hip (g:=g) hg;generalize X.ps[i]=p at *;obtain⟨hfb,hfr⟩:=hfile;have hset:=hfb.store 1 (.int .i64 (f.1.length:Int));have hcs:=pz w1 ⟨p.1,1,none⟩ (.int .i64 (f.1.length:Int));have hrow:=ny hfr hcs (fun g e hg=>hself (by rw[e];simpa using hg));have hcm:Chg (bz p) w1 (w1.setCell ⟨p.1,1,none⟩ (.int .i64 (f.1.length:Int))):=hcs.mono (fun g hg=>.inl (by simpa [bz] using Or.inl hg));have hdk:=key _ ⟨hset,hrow⟩ hcm;have e0:=hfb.cell 0;have e1:=hfb.cell 1;have f1:=hfb.free 1;simp only[gE0,gE1]at e0 e1;obtain⟨fA,fc,hfv2,_,_,_⟩:=ay hfr;have hup:Upd X w (w1.setCell ⟨p.1,1,none⟩ (.int .i64 (f.1.length:Int))) { S1 with files:=S1.files.set i (f.1,f.1.length) }:=Upd.after hc1 ⟨{ X with ps:=X.ps.set i (p.1,p.2) },rfl,hdk,hcm.mono (fun g hg=>.inl (hffo g hg)),hfo⟩;have HU:=Lib.hid hup;rw[hfv2]at e0;clear hup hdk hcm hset hcs hrow key hfo hv hself hptr hfv2 hfr hfb hffo;unfold ptrV;go_wp2;go_ret;exact⟨rfl,HU.out⟩
 ·have hne:=neq0 h0
  rw[if_pos h0]at hsy;rw[hsy];clear hsy e1 e2 e3 e4 e5 h0;go_enter Tryz.func29,Tryz.ntmps29;go_wp2_with fail;refine hcall.mono ?_;rintro e w1 ⟨rfl,h1,hc1⟩;go_wp2;go_ret;exact⟨rfl,Upd.called h1 hc1⟩
end
end Go.Proofs.YthjdpplgfdihoaaGreatDoor
