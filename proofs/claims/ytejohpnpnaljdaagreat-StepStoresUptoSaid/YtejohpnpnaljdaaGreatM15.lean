/- Part of a proof: S3. -/
import Derived.Test.YtejohpnpnaljdaaGreatM14
set_option linter.all false
set_option maxRecDepth 20000
set_option maxHeartbeats 20000000
namespace Go.Proofs.YtejohpnpnaljdaaGreat
open Go Go.Abs Go.Abs.lu
def fv(op:Int)(k:Nat):Bool:=
 if op=1\/op=15\/op=19\/op=20\/op=21 then(k==0)||(k==3)
 else if op=2 then(k==0)||(k==1)
 else if op=16\/op=17 then(k==0)||(k==1)||(k==3)
 else if op=18\/op=23 then k==3
 else if op=22 then k==0
 else if op=0\/op=24 then false
 else(k==0)||(k==1)||(k==2)
def jumps(op:Int):Bool:=decide (op=18)||decide (op=19)||decide (op=20)||decide (op=21)
def dW(op:Int):Bool:=jumps op||decide (op=22)||decide (op=24)
def l4(c:Cell):Bool:=decide (c.tag<=2)
def eD(l:List Cell):Bool:=l.all l4
theorem vG{l:List Cell}{i:Nat}(h:i<l.length):eD (l.take (i+1))=(eD (l.take i)&&l4 l[i]):=tz h
theorem Eo{l:List Cell}{i:Nat}(h:i<l.length)(hp: ¬l[i].tag<=2):eD l=false:=r8 h (by simpa[l4] using hp)
theorem B8{l:List Cell}:eD (l.take l.length)=eD l:=by rw[List.take_length]
def lM(t:Thread):Bool:=eD t.bm&& (decide (0<=t.state)&& (decide (t.state<=4)&& (decide (t.bm.length=8)&& (decide (0<=t.pc)&& (decide (t.pc<=255)&& (decide (0<=t.count)&& (decide (t.count<=1099511627776)&& (decide (-1<=t.bV)&& (decide (t.bV<=255)&& (decide (-1<=t.saved)&& (decide (t.saved<=255)&& (decide (0<=t.dd)&& (decide (t.dd<=6))))))))))))))
theorem Im{op:Int}(h:0<=op/\op<=24):op=0\/op=1\/op=2\/op=3\/op=4\/op=5\/op=6\/op=7\/op=8\/op=9\/op=10\/op=11\/op=12\/op=13\/op=14\/op=15\/op=16\/op=17\/op=18\/op=19\/op=20\/op=21\/op=22\/op=23\/op=24:=by omega
@[simp] theorem Yh(op:Int)(ho:0<=op/\op<=24):cz X 38 [op]=some (.agg [.bool ((fv op) 0),.bool ((fv op) 1),.bool ((fv op) 2),.bool ((fv op) 3)]):=by
 refine bd Tryz.func38 rfl rfl ?_;rcases Im ho with rfl|rfl|rfl|rfl|rfl|rfl|rfl|rfl|rfl|rfl|rfl|rfl|rfl|rfl|rfl|rfl|rfl|rfl|rfl|rfl|rfl|rfl|rfl|rfl|rfl;all_goals simp-implicitDefEqProofs[fv]
@[simp] theorem UB(op:Int)(ho:0<=op/\op<=24):cz X 190 [op]=some (.agg [.bool (fv op 0),.bool (fv op 1),.bool (fv op 2),.bool (fv op 3)]):=by
 refine bd Tryz.func190 rfl rfl ?_;rcases Im ho with rfl|rfl|rfl|rfl|rfl|rfl|rfl|rfl|rfl|rfl|rfl|rfl|rfl|rfl|rfl|rfl|rfl|rfl|rfl|rfl|rfl|rfl|rfl|rfl|rfl;all_goals simp-implicitDefEqProofs[fv]
@[simp] theorem Yi(op:Int):cz X 39 [op]=some (.bool (jumps op)):=by
 refine bd Tryz.func39 rfl rfl ?_;simp-implicitDefEqProofs[jumps];omega
@[simp] theorem Wv(op:Int):cz X 153 [op]=some (.bool (jumps op)):=by
 refine bd Tryz.func153 rfl rfl ?_;simp-implicitDefEqProofs[jumps];omega
@[simp] theorem UC(op:Int):cz X 41 [op]=some (.bool (dW op)):=by
 refine bd Tryz.func41 rfl rfl ?_;simp-implicitDefEqProofs[dW];cases jumps op<;>simp<;>omega
@[simp] theorem UD(op:Int):cz X 110 [op]=some (.bool (dW op)):=by
 refine bd Tryz.func110 rfl rfl ?_;simp-implicitDefEqProofs[dW];cases jumps op<;>simp<;>omega
@[simp] theorem ab0(l:List Cell)(hm:l.length<=1000000000):cz X 119 [l]=some (.bool (eD l)):=by
 refine bd Tryz.func119 rfl rfl ?_;simp-implicitDefEqProofs;refine cP (fun i S=>(S.f 5= .sl false (l.map Cell.e)/\S.f 6= .int .i64 ((l).length:Int)/\S.f 7= .int .i64 (i:Int)/\S.n=1100)/\(eD (l.take i)=true)) (l.length) ?_ 0 (by simp) ?_
 ·rintro i S kY ⟨dA,hX⟩;have eY:=cS i (by omega);by_cases bI:i<l.length
  ·simp-implicitDefEqProofs[dA,eY,bI]<;>(
    rw[vG bI,hX];exact⟨fun h=>Eo bI (by omega),fun h=>by simpa[l4] using h⟩)
  ·have ko:l.length=i:=by omega
   subst ko;simp-implicitDefEqProofs[dA]<;>(
    rw[<-hX,List.take_length])
 ·simp-implicitDefEqProofs<;>(
   rfl)
@[simp] theorem Ww(jf:Int)(dQ:List Cell)(ns fp dw fq kS kT:Int)(hm:dQ.length<=1000000000):cz X 71 [.agg [jf,dQ,ns,fp,dw,fq,kS,.int .u16 kT]]=some (.bool (lM (Thread.mk jf dQ ns fp dw fq kS kT))):=by
 refine bd Tryz.func71 rfl rfl ?_;simp-implicitDefEqProofs;refine cP (fun i S=>(S.f 1= .ptr 1 0 0/\S.h 1=some ⟨8,[.agg [.int .i64 jf,dQ,.int .i64 ns,.int .i64 fp,.int .i64 dw,.int .i64 fq,.int .i64 kS,.int .u16 kT]],true⟩/\S.f 6= .sl false (dQ.map Cell.e)/\S.f 7= .int .i64 ((dQ).length:Int)/\S.f 8= .int .i64 (i:Int)/\S.n=1100)/\(eD (dQ.take i)=true)) (dQ.length) ?_ 0 (by simp) ?_
 ·rintro i S kY ⟨dA,hX⟩;have eY:=cS i (by omega);by_cases bI:i<dQ.length
  ·simp-implicitDefEqProofs[dA,eY,bI]<;>(
    rw[vG bI,hX];refine⟨fun h=> ?_,fun h=>by simpa[l4] using h⟩;unfold lM;rw[Eo bI (by omega)];rfl)
  ·have ko:dQ.length=i:=by omega
   subst ko;simp-implicitDefEqProofs[dA]<;>(
    have hc:eD dQ=true:=by rw[<-hX,List.take_length]
    unfold lM;rw[hc];simp only[Bool.true_and];clear dA hX hc kY eY bI
    ((repeat' (first|apply And.intro|intro hh));all_goals first|(simp only[Bool.and_eq_false_iff,decide_eq_false_iff_not];omega)|(simp-implicitDefEqProofs[*];done)|(simp-implicitDefEqProofs[*]<;>(intros;omega))))
 ·simp-implicitDefEqProofs<;>(
   rfl)
@[simp] theorem Io(jf:Int)(dQ:List Cell)(ns fp dw fq kS kT:Int)(k:Nat)(hm:dQ.length<=1000000000): ∃h',cy X 143 [.agg [jf,dQ,ns,fp,dw,fq,kS,.int .u16 kT]] m8 k=some (.agg [.int .i64 jf,.bU (k+4) 0 dQ.length,.int .i64 ns,.int .i64 fp,.int .i64 dw,.int .i64 fq,.int .i64 kS,.int .u16 kT],h',k+9)/\h' (k+4)=some ⟨2,dQ.map Cell.e,false⟩:=by
 obtain⟨v,h',n',e,e1,e2,e3⟩:=bu (X:=X) (g:=143) (args:=[.agg [.int .i64 jf,dQ,.int .i64 ns,.int .i64 fp,.int .i64 dw,.int .i64 fq,.int .i64 kS,.int .u16 kT]]) (h:=m8) (k:=k) (K:=fun v h n=>v= .agg [.int .i64 jf,.bU (k+4) 0 dQ.length,.int .i64 ns,.int .i64 fp,.int .i64 dw,.int .i64 fq,.int .i64 kS,.int .u16 kT]/\n=k+9/\h (k+4)=some ⟨2,dQ.map Cell.e,false⟩) Tryz.func143 rfl rfl (by
  simp-implicitDefEqProofs[Nat.add_assoc];all_goals ((repeat' (first|apply And.intro|intro _))<;>first|omega|rfl))
 subst e1;subst e2;exact⟨h',e,e3⟩
@[simp] theorem ab1(jf:Int)(dQ:List Cell)(ns fp dw fq kS kT dd code:Int)(hm:dQ.length<=1000000000):cz X 94 [.agg [jf,dQ,ns,fp,dw,fq,kS,.int .u16 kT],dd,.int .u16 code]=some (.agg [.int .i64 ((⟨4,dQ,ns,fp,dw,fq,dd,code⟩:Thread)).state,.sl false (((⟨4,dQ,ns,fp,dw,fq,dd,code⟩:Thread)).bm.map Cell.e),.int .i64 ((⟨4,dQ,ns,fp,dw,fq,dd,code⟩:Thread)).pc,.int .i64 ((⟨4,dQ,ns,fp,dw,fq,dd,code⟩:Thread)).count,.int .i64 ((⟨4,dQ,ns,fp,dw,fq,dd,code⟩:Thread)).bV,.int .i64 ((⟨4,dQ,ns,fp,dw,fq,dd,code⟩:Thread)).saved,.int .i64 ((⟨4,dQ,ns,fp,dw,fq,dd,code⟩:Thread)).dd,.int .u16 ((⟨4,dQ,ns,fp,dw,fq,dd,code⟩:Thread)).code]):=by
 refine bd Tryz.func94 rfl rfl ?_;obtain⟨h1,e1,e2⟩:=Io jf dQ ns fp dw fq kS kT 6 hm;simp only[Nat.reduceAdd]at e1 e2;simp-implicitDefEqProofs[e1,e2]
@[simp] theorem Yj(MW:Int)(Lt:List Cell)(al4 MX Ep MY UE UF MZ:Int)(UG:List Cell)(al5 M0 Er M3 UH UI:Int)(hm:Lt.length<=1000000000):cz X 67 [.agg [MW,Lt,al4,MX,Ep,MY,UE,.int .u16 UF],.agg [MZ,UG,al5,M0,Er,M3,UH,.int .u16 UI]]=some (.bool (decide ((Thread.mk MW Lt al4 MX Ep MY UE UF)=(Thread.mk MZ UG al5 M0 Er M3 UH UI)))):=by
 refine bd Tryz.func67 rfl rfl ?_;simp-implicitDefEqProofs[hm,Thread.eq_iff]
 grind
end Go.Proofs.YtejohpnpnaljdaaGreat
