/-
The law RaftSafe, walked.
-/
import Derived.Test.YtogcnfhmcpkdcaaGreatGrS
import Derived.Test.YtogcnfhmcpkdcaaGreatOpenL
namespace Go.Proofs.YtogcnfhmcpkdcaaGreat
open Go.RowKit
set_option linter.unusedVariables false
set_option linter.unusedSimpArgs false
def ii(m:dB):Bool:=decide (50<m.b.length)
def lu(l:List dB):Bool:=((l.take 150).any ii) || decide (150<l.length)
theorem qO{l:List dB}(h:lu l=false):l.length<=150/\∀m∈l,m.b.length<=50:=by simp only[lu,Bool.or_eq_false_iff,decide_eq_false_iff_not,List.any_eq_false]at h;obtain⟨c,e⟩:=h;refine⟨by omega,fun m d=> ?_⟩;rw[List.take_of_length_le (by omega)]at c;have a:=c m d;simp[ii]at a;exact a
theorem uo{α:Type}{l:List α}{i n:Nat}{x:α}(a:l[i]? =some x)(hi:i<n):x∈l.take n:=List.mem_of_getElem? (i:=i) (by rw[List.getElem?_take,if_pos hi];exact a)
theorem uN{α:Type}{l:List α}{p:α->Bool}{k:Nat}{x:α}(a:l[k]? =some x):(l.take (k+1)).any p=((l.take k).any p || p x):=by
 have b:k<l.length:=(List.getElem?_eq_some_iff.1 a).1;have e:l[k]=x:=by simpa[List.getElem?_eq_getElem b] using a
 rw[List.take_succ_eq_append_getElem b,e,List.any_append]
 simp
set_option maxRecDepth 100000 in
set_option maxHeartbeats 1000000 in
theorem mo(l:List dB)(a:Option Addr)(c:Nat)(w:World)(h:SlAt w w.heap.size 4 a l.length c (gQ l)):
  Calls Tryz.prog 22 #[.slice a l.length c] w fun e w'=>e= .returned (.bool (lu l))/\w=w':=by
 have H:=Hh h;have k:=h.hmax;have I:=h.hle;unfold maxLen at k;obtain⟨G,t⟩:∃G,lu l=G:=⟨_,rfl⟩
 rw[t];have v:=Hh t;clear h t;go_enter Tryz.func22,Tryz.ntmps22
 go_wp2_with fail;go_loopw [3] (fun q wr=>∃i:Nat,q= .int .i64 i/\i<=l.length/\i<=150/\((l.take i).any ii)=false/\wr=w) (fun q _=>150-(intOf q).toNat)
 case atStart=>exact⟨0,rfl,by omega,by omega,rfl,rfl⟩
 case round=>
  obtain⟨i,rfl,R,J,f,rfl⟩:=hrel;have B:=Hh f;clear f;by_cases g:i<l.length
  ·have F:decide (i<l.length)=true:=by simpa using g
   by_cases x:i<150
   ·have D:decide ((i:Int)<150)=true:=by simp;omega
    obtain⟨m,r⟩:∃m,l[i]? =some m:=⟨_,List.getElem?_eq_getElem g⟩
    have A:=Hh r;obtain⟨b,o,rfl,S,y⟩:=H.out.hat (by have:=gP l;omega);have s:=gP l;have P:wr.cell? ⟨b,o+i*4+3,none⟩=some (.slice m.a m.b.length m.c):=by rw[Nat.add_assoc,y _ (by omega),kY l i m r 3 (by omega)];rfl
    have M:(0:Int)<=(i:Int):=by omega
    have L:(i:Int)<(l.length:Int):=by omega
    clear y s r;by_cases d:50<m.b.length
    ·have t3:decide ((50:Int)<(m.b.length:Int))=true:=by simp;omega
     have n:G=true:=by rw[<-v.out,lu];have N:((l.take 150).any ii)=true:=List.any_eq_true.2 ⟨m,uo A.out (by omega),by simp[ii,d]⟩;rw[N];rfl
     subst n;clear d;go_wp2;(try rw[Exit.noGoto_ret]);go_ret;exact⟨rfl,rfl⟩
    ·have t3:decide ((50:Int)<(m.b.length:Int))=false:=by simp;omega
     have O:=Hh (show((l.take (i+1)).any ii)=false from by rw[uN A.out,B.out];simp[ii,d]);clear d;go_wp2;go_roundw
     case rel=>exact⟨i+1,by go_num,by omega,by omega,O.out,by first | rfl | trivial⟩
     case measure=>simp[intOf];omega
   ·have D:decide ((i:Int)<150)=false:=by simp;omega
    have j:i=150:=by omega
    have n:G=true:=by rw[<-v.out,lu];simp;omega
    have C:decide ((150:Int)<(l.length:Int))=true:=by simp;omega
    subst n;go_wp2;(try rw[Exit.noGoto_ret]);go_ret;exact⟨rfl,rfl⟩
  ·have F:decide (i<l.length)=false:=by simpa using g
   have j:i=l.length:=by omega
   have p:((l.take 150).any ii)=false:=by have z:=B.out;rw[j,List.take_of_length_le (Nat.le_refl _)]at z;rw[List.take_of_length_le (by omega)];exact z
   have C:decide ((150:Int)<(l.length:Int))=false:=by simp;omega
   have n:G=false:=by
    rw[<-v.out,lu,p]
    simp;omega
   subst n;clear j p;go_wp2;(try rw[Exit.noGoto_ret]);go_ret;exact⟨rfl,rfl⟩
theorem wy{w:World}{B g n:Nat}{M:bG}(h1:1<=n)(h7:n<=7)(h:aA w B g 0 (ac.made n) M):xP w B g n 0 0:=by
 refine⟨Gh.zero,ac.made n,M,0,⟨wW n h1 h7, .made⟩,h,fun q c=> ?_⟩;have b:(ac.made n).rs[0]? =some (aa.new ((0:Nat):Int) n):=by show((List.range n).map fun(j:Nat)=>aa.new (j:Int) n)[0]? =_;rw[List.getElem?_map,List.getElem?_range (by omega)];rfl
 have a:=(h.rf 0 _ q b c).po.q;have e:(aa.new ((0:Nat):Int) n).out= []:=rfl;rw[e,List.map_eq_nil_iff]at a;exact a
end Go.Proofs.YtogcnfhmcpkdcaaGreat
