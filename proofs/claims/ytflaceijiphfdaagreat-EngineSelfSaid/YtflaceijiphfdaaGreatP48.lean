import Derived.Test.YtflaceijiphfdaaGreatP33
import Derived.Shelf.Strings.Repeat
set_option linter.unusedSimpArgs false
set_option linter.unusedVariables false
set_option maxHeartbeats 0
set_option maxRecDepth 100000
namespace Go.Proofs.YtflaceijiphfdaaGreat
open Go Go.RowKit
theorem QBn {P:Program} {f:FuncId} (hE:QuO P f) {s S:ByteArray} {c:Int} (h:∀ w,Calls P f #[.string s,.int .i64 c] w fun e w'=>e= .returned (.string S)/\Below w.heap.size w w') :
  Fn P f [.s (.str s),.s (.int .i64 c)] [] (. =⟨.a (.s (.str S)),[],[]⟩):=⟨hE,fun ρ w vs hd ha hc=>by
 have hv:vs= #[.string s,.int .i64 c]:=by
  obtain ⟨hl,hk⟩:=ha;obtain ⟨v0,e0,g0⟩:=hk 0 _ rfl;obtain ⟨v1,e1,g1⟩:=hk 1 _ rfl;have g0:v0= .string s:=g0;have g1:v1= .int .i64 c:=g1;subst g0 g1;obtain ⟨l⟩:=vs
  match l,hl,e0,e1 with
  | [a,b],_,e0,e1=>injection e0 with e0;injection e1 with e1;rw [e0,e1]
 subst hv;refine (h w).mono ?_;rintro e w' ⟨rfl,hB⟩;have hn:∀ n,(⟨.a (.s (.str S)),[],[]⟩:Res).app [] n=none:=fun n=>by cases n<;>rfl
 refine ⟨_,_,ρ,rfl,rfl,Ext.refl _,fun n _=>hd n (Nat.zero_le _),rfl,⟨(fun n r e=>by rw [hn] at e;cases e),(fun n r m s Ln Lm e=>by rw [hn] at e;cases e),(fun n r L e=>by rw [hn] at e;cases e),hB.os,hB.tape,hB.output,hB.size,fun b hb _=>hB.block b hb,fun L c hf=>?_⟩,fun p hp=>(by cases hp),fun p hp=>(by cases hp),fun p hp=>(by cases hp)⟩;obtain ⟨f1,_,_⟩:=hc.frz L c hf
 exact ⟨f1.of_block (hB.block _ f1.lt),(fun n r Ln e=>by rw [hn] at e;cases e),.inl hf⟩⟩
def QG3:Go.Shelf.Ren:=⟨fun
  | 99=>252
  | 105=>244
  | 165=>253
  | 166=>254
  | 169=>256
  | 170=>255
  | 206=>260
  | 212=>251
  | 240=>261
  | 241=>262
  | 263=>258
  | 264=>259
  | 276=>263
  | 277=>264
  | n=>n,fun
  | 0=>0
  | 3=>3
  | 4=>4
  | 5=>5
  | 9=>9
  | 20=>20
  | 37=>76
  | 46=>72
  | 51=>23
  | 53=>22
  | 70=>296
  | 72=>298
  | 75=>300
  | 76=>301
  | 80=>304
  | 109=>293
  | 127=>307
  | 146=>236
  | 148=>108
  | 164=>308
  | n=>n,fun n=>n⟩
theorem laysR:Lays.n105 Tryz.prog QG3:=by
 constructor<;>first|kernel_rfl|(intro w;kernel_rfl)
theorem QA4:Builder.Extra Tryz.prog QG3:=by
 refine ⟨⟨by kernel_rfl,by kernel_rfl⟩,laysR.t5,laysR.a5,laysR.z5,laysR.v5,by kernel_rfl,by kernel_rfl,by kernel_rfl,by decide⟩
theorem QB8:FN 244 [.s (.str ⟨#[0]⟩),.s (.int .i64 128)] [] (. =⟨.a (.s (.str z128)),[],[]⟩) :=
 QBn ⟨Tryz.f244,Tryz.func244,by kernel_rfl,by kernel_rfl⟩ fun w=>by
  have h:=Any.strings_Repeat laysR QA4 ⟨#[0]⟩ 128 w (by decide) (by decide);rw [show (⟨(Lib.repeatL (⟨#[0]⟩:ByteArray).data.toList 128).toArray⟩:ByteArray)=z128 by kernel_rfl] at h;exact h
end Go.Proofs.YtflaceijiphfdaaGreat
