/- Facts. No condition. -/
import Derived.Test.YtkdohhmacfoolaaGreatRows
import Derived.Test.YtkdohhmacfoolaaGreatNqAmB
set_option linter.unusedSimpArgs false
set_option linter.unusedVariables false
namespace Go.Proofs.YtkdohhmacfoolaaGreat
open Go.Proofs.Tryz Go Go.AM
theorem sz0:bD prog 0=some 1:=by kernel_rfl
theorem sz1:bD prog 1=some 1:=by kernel_rfl
theorem tb1:Tryz.t1.bytes=8:=rfl
theorem sz2:bD prog 2=some 1:=by kernel_rfl
theorem sz3:bD prog 3=some 1:=by kernel_rfl
theorem in3:Tryz.prog.info? 3=some Tryz.t3:=by kernel_rfl
theorem ts3:Tryz.t3.size=1:=rfl
theorem tb3:Tryz.t3.bytes=8:=rfl
theorem tz3:Tryz.t3.zero=some (Value.int IntKind.i64 0):=rfl
theorem zc3:zeroCells? prog 3=some [.v (Value.int IntKind.i64 0)]:=by kernel_rfl
theorem sz4:bD prog 4=some 1:=by kernel_rfl
theorem in4:Tryz.prog.info? 4=some Tryz.t4:=by kernel_rfl
theorem ts4:Tryz.t4.size=1:=rfl
theorem tb4:Tryz.t4.bytes=1:=rfl
theorem tz4:Tryz.t4.zero=some (Value.bool false):=rfl
theorem zc4:zeroCells? prog 4=some [.v (Value.bool false)]:=by kernel_rfl
theorem sz5:bD prog 5=some 1:=by kernel_rfl
theorem in5:Tryz.prog.info? 5=some Tryz.t5:=by kernel_rfl
theorem ts5:Tryz.t5.size=1:=rfl
theorem tb5:Tryz.t5.bytes=1:=rfl
theorem zc5:zeroCells? prog 5=some [.v (Value.int IntKind.u8 0)]:=by kernel_rfl
theorem sz6:bD prog 6=some 1:=by kernel_rfl
theorem sz7:bD prog 7=some 4:=by kernel_rfl
theorem sz8:bD prog 8=some 4:=by kernel_rfl
theorem sz9:bD prog 9=some 1:=by kernel_rfl
theorem in9:Tryz.prog.info? 9=some Tryz.t9:=by kernel_rfl
theorem ts9:Tryz.t9.size=1:=rfl
theorem tb9:Tryz.t9.bytes=16:=rfl
theorem tz9:Tryz.t9.zero=some (Value.string { data:= #[] }):=rfl
theorem cFv:bD prog 10=some 1:=by kernel_rfl
theorem cFw:bD prog 11=some 1:=by kernel_rfl
theorem cFx:bD prog 12=some 1:=by kernel_rfl
theorem cFy:bD prog 13=some 2:=by kernel_rfl
theorem cFz:bD prog 14=some 2:=by kernel_rfl
theorem cG0:bD prog 15=some 1:=by kernel_rfl
theorem cG1:bD prog 16=some 1:=by kernel_rfl
theorem cG2:bD prog 17=some 1:=by kernel_rfl
theorem cG3:bD prog 18=some 1:=by kernel_rfl
theorem cG4:bD prog 19=some 1:=by kernel_rfl
theorem cG5:bD prog 20=some 1:=by kernel_rfl
theorem cG6:bD prog 21=some 1:=by kernel_rfl
theorem cG7:bD prog 22=some 3:=by kernel_rfl
theorem bWh:bD prog 23=some 3:=by kernel_rfl
theorem cEl:zeroCells? prog 23=some [.v (Value.int IntKind.i64 0),.v (Value.int IntKind.i64 0),.v (Value.int IntKind.i64 0)]:=by kernel_rfl
theorem cG8:bD prog 24=some 1:=by kernel_rfl
theorem bR9:Tryz.prog.info? 24=some Tryz.t24:=by kernel_rfl
theorem cI7:Tryz.t24.size=1:=rfl
theorem cE7:Tryz.t24.bytes=24:=rfl
theorem bTn:Tryz.t24.zero=some (Value.slice none 0 0):=rfl
theorem cG9:bD prog 25=some 1:=by kernel_rfl
theorem cGa:bD prog 26=some 1:=by kernel_rfl
theorem cDm:bD prog 27=some 1:=by kernel_rfl
theorem bTi:bD prog 28=some 1:=by kernel_rfl
theorem bWr:zeroCells? prog 28=some [.v (Value.slice none 0 0)]:=by kernel_rfl
theorem cGb:bD prog 29=some 5:=by kernel_rfl
theorem cGc:bD prog 30=some 5:=by kernel_rfl
theorem cIc:zeroCells? prog 30=some [.v (Value.int IntKind.i64 0),.v (Value.int IntKind.i64 0),.v (Value.int IntKind.i64 0),.v (Value.slice none 0 0),.v (Value.slice none 0 0)]:=by kernel_rfl
theorem cE5:bD prog 31=some 1:=by kernel_rfl
theorem cGd:bD prog 32=some 6:=by kernel_rfl
theorem bM3:bD prog 33=some 6:=by kernel_rfl
theorem bWs:zeroCells? prog 33=some [.v (Value.int IntKind.i64 0),.v (Value.int IntKind.i64 0),.v (Value.int IntKind.i64 0),.v (Value.slice none 0 0),.v (Value.slice none 0 0),.v (Value.slice none 0 0)]:=by kernel_rfl
theorem cGe:bD prog 34=some 2:=by kernel_rfl
theorem cGf:bD prog 35=some 2:=by kernel_rfl
theorem cId:zeroCells? prog 35=some [.v (Value.slice none 0 0),.v (Value.int IntKind.i64 0)]:=by kernel_rfl
theorem cGg:bD prog 36=some 1:=by kernel_rfl
theorem bAw:Tryz.prog.info? 36=some Tryz.t36:=by kernel_rfl
theorem cI8:Tryz.t36.size=1:=rfl
theorem cE8:Tryz.t36.bytes=8:=rfl
theorem cEd:Tryz.t36.zero=some (Value.int IntKind.i64 0):=rfl
theorem cGh:bD prog 37=some 1:=by kernel_rfl
theorem cGi:bD prog 38=some 1:=by kernel_rfl
theorem cGj:bD prog 39=some 1:=by kernel_rfl
theorem cGk:bD prog 40=some 1:=by kernel_rfl
theorem cGl:bD prog 41=some 3:=by kernel_rfl
theorem cGm:bD prog 42=some 3:=by kernel_rfl
theorem fF:bD prog 43=some 1:=by kernel_rfl
theorem bVh:Tryz.prog.info? 43=some Tryz.t43:=by kernel_rfl
theorem bWk:Tryz.t43.size=1:=rfl
theorem bM4:Tryz.t43.bytes=8:=rfl
theorem bWl:Tryz.t43.zero=some (Value.int IntKind.u64 0):=rfl
theorem bM8:zeroCells? prog 43=some [.v (Value.int IntKind.u64 0)]:=by kernel_rfl
theorem cGn:bD prog 44=some 4:=by kernel_rfl
theorem cGo:bD prog 45=some 4:=by kernel_rfl
theorem cIe:zeroCells? prog 45=some [.v (Value.int IntKind.i64 0),.v (Value.int IntKind.u64 0),.v (Value.int IntKind.u64 0),.v (Value.string { data:= #[] })]:=by kernel_rfl
theorem cGp:bD prog 46=some 1:=by kernel_rfl
theorem cGq:bD prog 47=some 1:=by kernel_rfl
theorem cGr:bD prog 48=some 1:=by kernel_rfl
theorem cGs:bD prog 49=some 1:=by kernel_rfl
theorem cGt:bD prog 50=some 1:=by kernel_rfl
theorem cGu:bD prog 51=some 1:=by kernel_rfl
theorem cGv:bD prog 52=some 1:=by kernel_rfl
theorem cGw:bD prog 53=some 1:=by kernel_rfl
theorem cGx:bD prog 54=some 1:=by kernel_rfl
theorem cGy:bD prog 55=some 6:=by kernel_rfl
theorem cGz:bD prog 56=some 6:=by kernel_rfl
theorem cIf:zeroCells? prog 56=some [.v (Value.int IntKind.i64 0),.v (Value.int IntKind.i64 0),.v (Value.int IntKind.i64 0),.v (Value.slice none 0 0),.v (Value.slice none 0 0),.v (Value.slice none 0 0)]:=by kernel_rfl
theorem cH0:bD prog 57=some 1:=by kernel_rfl
theorem cH1:bD prog 58=some 1:=by kernel_rfl
theorem cH2:bD prog 59=some 1:=by kernel_rfl
theorem cH3:bD prog 60=some 2:=by kernel_rfl
theorem cH4:bD prog 61=some 1:=by kernel_rfl
theorem cH5:bD prog 62=some 1:=by kernel_rfl
theorem cH6:bD prog 63=some 1:=by kernel_rfl
theorem cH7:bD prog 64=some 1:=by kernel_rfl
theorem cH8:bD prog 65=some 1:=by kernel_rfl
theorem cH9:bD prog 66=some 1:=by kernel_rfl
theorem cHa:bD prog 67=some 1:=by kernel_rfl
theorem cHb:bD prog 68=some 1:=by kernel_rfl
theorem fS:bD prog 69=some 2:=by kernel_rfl
theorem cEw:Tryz.prog.info? 69=some Tryz.t69:=by kernel_rfl
theorem cI9:Tryz.t69.size=2:=rfl
theorem cE9:Tryz.t69.bytes=16:=rfl
theorem cIa:Tryz.t69.zero=some (Value.agg #[Value.int IntKind.u64 0,Value.int IntKind.u64 0]):=rfl
theorem cIg:zeroCells? prog 69=some [.v (Value.int IntKind.u64 0),.v (Value.int IntKind.u64 0)]:=by kernel_rfl
theorem cHc:bD prog 70=some 1:=by kernel_rfl
theorem cHd:bD prog 71=some 1:=by kernel_rfl
theorem cHe:bD prog 72=some 1:=by kernel_rfl
theorem cHf:bD prog 73=some 1:=by kernel_rfl
theorem cHg:bD prog 74=some 1:=by kernel_rfl
theorem cHh:bD prog 75=some 1:=by kernel_rfl
theorem cHi:bD prog 76=some 1:=by kernel_rfl
theorem cHj:bD prog 77=some 1:=by kernel_rfl
theorem cHk:bD prog 78=some 1:=by kernel_rfl
theorem cHl:bD prog 79=some 1:=by kernel_rfl
theorem cHm:bD prog 80=some 1:=by kernel_rfl
theorem cHn:bD prog 81=some 1:=by kernel_rfl
theorem cHo:bD prog 82=some 1:=by kernel_rfl
theorem cHp:bD prog 83=some 1:=by kernel_rfl
theorem cHq:bD prog 84=some 1:=by kernel_rfl
theorem cHr:bD prog 85=some 1:=by kernel_rfl
theorem cHs:bD prog 86=some 1:=by kernel_rfl
theorem cHt:bD prog 87=some 1:=by kernel_rfl
theorem cHu:bD prog 88=some 1:=by kernel_rfl
theorem cHv:bD prog 89=some 1:=by kernel_rfl
theorem cHw:bD prog 90=some 1:=by kernel_rfl
theorem cHx:bD prog 91=some 1:=by kernel_rfl
theorem cHy:bD prog 92=some 1:=by kernel_rfl
theorem cHz:bD prog 93=some 1:=by kernel_rfl
theorem cI0:bD prog 94=some 1:=by kernel_rfl
theorem cI1:bD prog 95=some 1:=by kernel_rfl
theorem cI2:bD prog 96=some 1:=by kernel_rfl
theorem cI3:bD prog 97=some 1:=by kernel_rfl
theorem cI4:bD prog 98=some 1:=by kernel_rfl
theorem cI5:bD prog 99=some 1:=by kernel_rfl
theorem bZ7:bD prog 100=some 1:=by kernel_rfl
theorem bZ8:bD prog 101=some 3:=by kernel_rfl
theorem aGi:bD prog 102=some 3:=by kernel_rfl
theorem bAv:Tryz.prog.info? 102=some Tryz.t102:=by kernel_rfl
theorem bCo:Tryz.t102.size=3:=rfl
theorem aM2:Tryz.t102.bytes=24:=rfl
theorem bCp:Tryz.t102.zero=some (Value.agg #[Value.int IntKind.i64 0,Value.int IntKind.i64 0,Value.int IntKind.i64 0]):=rfl
theorem aOz:zeroCells? prog 102=some [.v (Value.int IntKind.i64 0),.v (Value.int IntKind.i64 0),.v (Value.int IntKind.i64 0)]:=by kernel_rfl
theorem bZ9:bD prog 103=some 2:=by kernel_rfl
theorem bCe:bD prog 104=some 2:=by kernel_rfl
theorem bHp:Tryz.prog.info? 104=some Tryz.t104:=by kernel_rfl
theorem bIk:Tryz.t104.size=2:=rfl
theorem aRb:Tryz.t104.bytes=16:=rfl
theorem bIm:Tryz.t104.zero=some (Value.agg #[Value.bool false,Value.int IntKind.u64 0]):=rfl
theorem bCw:zeroCells? prog 104=some [.v (Value.bool false),.v (Value.int IntKind.u64 0)]:=by kernel_rfl
theorem bZa:bD prog 105=some 1:=by kernel_rfl
theorem bZb:bD prog 106=some 1:=by kernel_rfl
theorem bZc:bD prog 107=some 1:=by kernel_rfl
theorem bZd:bD prog 108=some 1:=by kernel_rfl
theorem bZe:bD prog 109=some 1:=by kernel_rfl
theorem bZf:bD prog 110=some 1:=by kernel_rfl
theorem bZg:bD prog 111=some 1:=by kernel_rfl
theorem aR9:bD prog 112=some 1:=by kernel_rfl
theorem bY9:Tryz.prog.info? 112=some Tryz.t112:=by kernel_rfl
theorem cEa:Tryz.t112.size=1:=rfl
theorem cE6:Tryz.t112.bytes=24:=rfl
theorem cEh:zeroCells? prog 112=some [.v (Value.slice none 0 0)]:=by kernel_rfl
theorem bZh:bD prog 113=some 1:=by kernel_rfl
theorem bZi:bD prog 114=some 1:=by kernel_rfl
theorem bZj:bD prog 115=some 1:=by kernel_rfl
theorem bZk:bD prog 116=some 1:=by kernel_rfl
theorem bZl:bD prog 117=some 1:=by kernel_rfl
theorem bZm:bD prog 118=some 1:=by kernel_rfl
theorem bZn:bD prog 119=some 2:=by kernel_rfl
theorem bCf:bD prog 120=some 2:=by kernel_rfl
theorem bHq:Tryz.prog.info? 120=some Tryz.t120:=by kernel_rfl
theorem bIl:Tryz.t120.size=2:=rfl
theorem aRc:Tryz.t120.bytes=16:=rfl
theorem bIn:Tryz.t120.zero=some (Value.agg #[Value.int IntKind.u64 0,Value.int IntKind.u64 0]):=rfl
theorem bCx:zeroCells? prog 120=some [.v (Value.int IntKind.u64 0),.v (Value.int IntKind.u64 0)]:=by kernel_rfl
theorem bZo:bD prog 121=some 1:=by kernel_rfl
theorem bZp:bD prog 122=some 1:=by kernel_rfl
theorem bZq:bD prog 123=some 1:=by kernel_rfl
theorem bZr:bD prog 124=some 1:=by kernel_rfl
theorem bZs:bD prog 125=some 1:=by kernel_rfl
theorem bZt:bD prog 126=some 1:=by kernel_rfl
theorem bZu:bD prog 127=some 1:=by kernel_rfl
theorem bZv:bD prog 128=some 1:=by kernel_rfl
theorem bZw:bD prog 129=some 1:=by kernel_rfl
theorem bZx:bD prog 130=some 1:=by kernel_rfl
theorem bUq:zeroCells? prog 130=some [.v (Value.pointer none)]:=by kernel_rfl
theorem bZy:bD prog 131=some 1:=by kernel_rfl
theorem bZz:bD prog 132=some 1:=by kernel_rfl
theorem cA0:bD prog 133=some 1:=by kernel_rfl
theorem cA1:bD prog 134=some 1:=by kernel_rfl
theorem cA2:bD prog 135=some 1:=by kernel_rfl
theorem cA3:bD prog 136=some 1:=by kernel_rfl
theorem cA4:bD prog 137=some 1:=by kernel_rfl
theorem cA5:bD prog 138=some 1:=by kernel_rfl
theorem cA6:bD prog 139=some 1:=by kernel_rfl
theorem cA7:bD prog 140=some 1:=by kernel_rfl
theorem cA8:bD prog 141=some 1:=by kernel_rfl
theorem cA9:bD prog 142=some 1:=by kernel_rfl
theorem cAa:bD prog 143=some 1:=by kernel_rfl
theorem cAb:bD prog 144=some 1:=by kernel_rfl
theorem cAc:bD prog 145=some 1:=by kernel_rfl
theorem cAd:bD prog 146=some 1:=by kernel_rfl
theorem cAe:bD prog 147=some 1:=by kernel_rfl
theorem cAf:bD prog 148=some 1:=by kernel_rfl
theorem cAg:bD prog 149=some 1:=by kernel_rfl
theorem cAh:bD prog 150=some 1:=by kernel_rfl
theorem cAi:bD prog 151=some 2:=by kernel_rfl
theorem bYa:Tryz.prog.info? 151=some Tryz.t151:=by kernel_rfl
theorem cEb:Tryz.t151.size=2:=rfl
theorem bUl:Tryz.t151.bytes=16:=rfl
theorem cEc:Tryz.t151.zero=some (Value.agg #[Value.bool false,Value.int IntKind.u64 0]):=rfl
theorem cEi:zeroCells? prog 151=some [.v (Value.bool false),.v (Value.int IntKind.u64 0)]:=by kernel_rfl
theorem cAj:bD prog 152=some 1:=by kernel_rfl
theorem cAk:bD prog 153=some 1:=by kernel_rfl
theorem cAl:bD prog 154=some 1:=by kernel_rfl
theorem cAm:bD prog 155=some 1:=by kernel_rfl
theorem cAn:bD prog 156=some 1:=by kernel_rfl
theorem cAo:bD prog 157=some 2:=by kernel_rfl
theorem bIg:bD prog 158=some 2:=by kernel_rfl
theorem cEj:zeroCells? prog 158=some [.v (Value.int IntKind.u64 0),.v (Value.int IntKind.i64 0)]:=by kernel_rfl
theorem cAp:bD prog 159=some 1:=by kernel_rfl
theorem cAq:bD prog 160=some 1:=by kernel_rfl
theorem cAr:bD prog 161=some 1:=by kernel_rfl
theorem cAs:bD prog 162=some 1:=by kernel_rfl
theorem cAt:bD prog 163=some 1:=by kernel_rfl
theorem cAu:bD prog 164=some 1:=by kernel_rfl
theorem cAv:bD prog 165=some 1:=by kernel_rfl
theorem cAw:bD prog 166=some 1:=by kernel_rfl
theorem cAx:bD prog 167=some 1:=by kernel_rfl
theorem cAy:bD prog 168=some 1:=by kernel_rfl
theorem cAz:bD prog 169=some 1:=by kernel_rfl
theorem cB0:bD prog 170=some 1:=by kernel_rfl
theorem cB1:bD prog 171=some 1:=by kernel_rfl
theorem cB2:bD prog 172=some 1:=by kernel_rfl
theorem cB3:bD prog 173=some 1:=by kernel_rfl
theorem cB4:bD prog 174=some 1:=by kernel_rfl
theorem cB5:bD prog 175=some 1:=by kernel_rfl
theorem cB6:bD prog 176=some 1:=by kernel_rfl
theorem cB7:bD prog 177=some 1:=by kernel_rfl
theorem cB8:bD prog 178=some 1:=by kernel_rfl
theorem cB9:bD prog 179=some 1:=by kernel_rfl
theorem cBa:bD prog 180=some 1:=by kernel_rfl
theorem cBb:bD prog 181=some 1:=by kernel_rfl
theorem cBc:bD prog 182=some 1:=by kernel_rfl
theorem cBd:bD prog 183=some 1:=by kernel_rfl
theorem cBe:bD prog 184=some 1:=by kernel_rfl
theorem cBf:bD prog 185=some 1:=by kernel_rfl
theorem cBg:bD prog 186=some 1:=by kernel_rfl
theorem cBh:bD prog 187=some 1:=by kernel_rfl
theorem cBi:bD prog 188=some 1:=by kernel_rfl
theorem cBj:bD prog 189=some 1:=by kernel_rfl
theorem cBk:bD prog 190=some 1:=by kernel_rfl
theorem cBl:bD prog 191=some 6:=by kernel_rfl
theorem cBm:bD prog 192=some 6:=by kernel_rfl
theorem cEk:zeroCells? prog 192=some [.v (Value.pointer none),.v (Value.pointer none),.v (Value.int IntKind.u64 0),.v (Value.int IntKind.i64 0),.v (Value.int IntKind.i64 0),.v (Value.int IntKind.i64 0)]:=by kernel_rfl
theorem cBn:bD prog 193=some 1:=by kernel_rfl
theorem cBo:bD prog 194=some 1:=by kernel_rfl
theorem cBp:bD prog 195=some 1:=by kernel_rfl
theorem cBq:bD prog 196=some 1:=by kernel_rfl
theorem cBr:bD prog 197=some 1:=by kernel_rfl
theorem cBs:bD prog 198=some 1:=by kernel_rfl
theorem cBt:bD prog 199=some 1:=by kernel_rfl
theorem cBu:bD prog 200=some 1:=by kernel_rfl
theorem cBv:bD prog 201=some 1:=by kernel_rfl
theorem cBw:bD prog 202=some 1:=by kernel_rfl
theorem cBx:bD prog 203=some 1:=by kernel_rfl
theorem cBy:bD prog 204=some 1:=by kernel_rfl
theorem cBz:bD prog 205=some 1:=by kernel_rfl
theorem cC0:bD prog 206=some 1:=by kernel_rfl
theorem cC1:bD prog 207=some 1:=by kernel_rfl
theorem cC2:bD prog 208=some 1:=by kernel_rfl
theorem cC3:bD prog 209=some 1:=by kernel_rfl
theorem cC4:bD prog 210=some 1:=by kernel_rfl
theorem cC5:bD prog 211=some 1:=by kernel_rfl
theorem cC6:bD prog 212=some 1:=by kernel_rfl
theorem cC7:bD prog 213=some 1:=by kernel_rfl
theorem cC8:bD prog 214=some 1:=by kernel_rfl
theorem cC9:bD prog 215=some 1:=by kernel_rfl
theorem cCa:bD prog 216=some 1:=by kernel_rfl
theorem cCb:bD prog 217=some 1:=by kernel_rfl
theorem cCc:bD prog 218=some 1:=by kernel_rfl
theorem cCd:bD prog 219=some 1:=by kernel_rfl
theorem cCe:bD prog 220=some 1:=by kernel_rfl
theorem cCf:bD prog 221=some 1:=by kernel_rfl
theorem cCg:bD prog 222=some 1:=by kernel_rfl
theorem cCh:bD prog 223=some 1:=by kernel_rfl
theorem cCi:bD prog 224=some 1:=by kernel_rfl
theorem cCj:bD prog 225=some 1:=by kernel_rfl
theorem cCk:bD prog 226=some 1:=by kernel_rfl
theorem cCl:bD prog 227=some 1:=by kernel_rfl
theorem cCm:bD prog 228=some 1:=by kernel_rfl
theorem cCn:bD prog 229=some 1:=by kernel_rfl
theorem cCo:bD prog 230=some 1:=by kernel_rfl
theorem aWs:bD prog 231=some 1:=by kernel_rfl
theorem bUr:zeroCells? prog 231=some [.v (Value.int IntKind.u64 0)]:=by kernel_rfl
theorem cCp:bD prog 232=some 1:=by kernel_rfl
theorem cCq:bD prog 233=some 1:=by kernel_rfl
theorem cCr:bD prog 234=some 1:=by kernel_rfl
theorem cCs:bD prog 235=some 1:=by kernel_rfl
theorem cCt:bD prog 236=some 1:=by kernel_rfl
theorem cCu:bD prog 237=some 1:=by kernel_rfl
theorem cCv:bD prog 238=some 1:=by kernel_rfl
theorem cCw:bD prog 239=some 1:=by kernel_rfl
theorem cCx:bD prog 240=some 1:=by kernel_rfl
theorem cCy:bD prog 241=some 1:=by kernel_rfl
theorem cCz:bD prog 242=some 3:=by kernel_rfl
theorem cD0:bD prog 243=some 3:=by kernel_rfl
theorem cEm:zeroCells? prog 243=some [.v (Value.int IntKind.i64 0),.v (Value.int IntKind.i64 0),.v (Value.slice none 0 0)]:=by kernel_rfl
theorem cD1:bD prog 244=some 1:=by kernel_rfl
theorem cD2:bD prog 245=some 1:=by kernel_rfl
theorem cD3:bD prog 246=some 1:=by kernel_rfl
theorem cD4:bD prog 247=some 1:=by kernel_rfl
theorem cD5:bD prog 248=some 1:=by kernel_rfl
theorem cD6:bD prog 249=some 1:=by kernel_rfl
theorem cD7:bD prog 250=some 1:=by kernel_rfl
theorem cD8:bD prog 251=some 1:=by kernel_rfl
theorem cD9:bD prog 252=some 1:=by kernel_rfl
theorem cDa:bD prog 253=some 1:=by kernel_rfl
theorem cDb:bD prog 254=some 1:=by kernel_rfl
theorem cDc:bD prog 255=some 1:=by kernel_rfl
theorem cDd:bD prog 256=some 1:=by kernel_rfl
theorem cDe:bD prog 257=some 1:=by kernel_rfl
theorem cDf:bD prog 259=some 1:=by kernel_rfl
theorem cDg:bD prog 260=some 1:=by kernel_rfl
theorem cDh:bD prog 261=some 1:=by kernel_rfl
theorem cDi:bD prog 263=some 1:=by kernel_rfl
theorem cDj:bD prog 265=some 1:=by kernel_rfl
theorem cDk:bD prog 267=some 1:=by kernel_rfl
theorem cDl:bD prog 269=some 1:=by kernel_rfl
theorem cDn:bD prog 270=some 1:=by kernel_rfl
theorem cDo:bD prog 271=some 1:=by kernel_rfl
theorem cDp:bD prog 272=some 1:=by kernel_rfl
theorem cDq:bD prog 273=some 4:=by kernel_rfl
theorem cDr:bD prog 274=some 4:=by kernel_rfl
theorem cDs:bD prog 275=some 0:=by kernel_rfl
theorem cDt:bD prog 276=some 0:=by kernel_rfl
theorem cDu:bD prog 277=some 0:=by kernel_rfl
theorem cDv:bD prog 278=some 1:=by kernel_rfl
theorem cDw:bD prog 279=some 1:=by kernel_rfl
theorem cDx:bD prog 280=some 1:=by kernel_rfl
theorem cDy:bD prog 281=some 1:=by kernel_rfl
theorem cDz:bD prog 282=some 1:=by kernel_rfl
theorem cE0:bD prog 283=some 1:=by kernel_rfl
theorem cE1:bD prog 284=some 1:=by kernel_rfl
theorem cE2:bD prog 285=some 11:=by kernel_rfl
theorem cE3:bD prog 286=some 11:=by kernel_rfl
theorem cE4:bD prog 287=some 1:=by kernel_rfl
abbrev FbP(k:Nat):Prop:=(Program.funcs prog)[k]?.any (fun fn=>fn.body.isSome&&fn.name != "runtime.NumGoroutine")=true
theorem fbT{k:Nat}{f}(h:(Program.funcs prog)[k]? =some f)(h':(f.body.isSome&&f.name != "runtime.NumGoroutine")=true):FbP k:=by
 show (Program.funcs prog)[k]?.any _=true;rw [h];exact h'
theorem cEu:FbP 33:=fbT func33 (by kernel_rfl)
theorem cEv:FbP 38:=fbT func38 (by kernel_rfl)
theorem bXf:FbP 100:=fbT func100 (by kernel_rfl)
theorem bTw:FbP 103:=fbT func103 (by kernel_rfl)
theorem bXg:FbP 104:=fbT func104 (by kernel_rfl)
theorem bXh:FbP 105:=fbT func105 (by kernel_rfl)
theorem bXi:FbP 106:=fbT func106 (by kernel_rfl)
theorem aLm:FbP 110:=fbT func110 (by kernel_rfl)
theorem bXj:FbP 112:=fbT func112 (by kernel_rfl)
theorem bXk:FbP 113:=fbT func113 (by kernel_rfl)
theorem bTx:FbP 114:=fbT func114 (by kernel_rfl)
theorem bTy:FbP 125:=fbT func125 (by kernel_rfl)
theorem bNq:FbP 127:=fbT func127 (by kernel_rfl)
theorem bTz:FbP 128:=fbT func128 (by kernel_rfl)
theorem bXl:FbP 129:=fbT func129 (by kernel_rfl)
theorem bXm:FbP 130:=fbT func130 (by kernel_rfl)
theorem bXn:FbP 131:=fbT func131 (by kernel_rfl)
theorem bU0:FbP 132:=fbT func132 (by kernel_rfl)
theorem bNr:FbP 133:=fbT func133 (by kernel_rfl)
theorem bU1:FbP 134:=fbT func134 (by kernel_rfl)
theorem bNs:FbP 136:=fbT func136 (by kernel_rfl)
theorem aNl:FbP 142:=fbT func142 (by kernel_rfl)
theorem bHj:FbP 143:=fbT func143 (by kernel_rfl)
theorem bU2:FbP 144:=fbT func144 (by kernel_rfl)
theorem bXo:FbP 145:=fbT func145 (by kernel_rfl)
theorem bXp:FbP 146:=fbT func146 (by kernel_rfl)
theorem bXq:FbP 147:=fbT func147 (by kernel_rfl)
theorem bXr:FbP 148:=fbT func148 (by kernel_rfl)
theorem bXs:FbP 149:=fbT func149 (by kernel_rfl)
theorem bXt:FbP 150:=fbT func150 (by kernel_rfl)
theorem aG3:FbP 151:=fbT func151 (by kernel_rfl)
theorem bXu:FbP 152:=fbT func152 (by kernel_rfl)
theorem bXv:FbP 153:=fbT func153 (by kernel_rfl)
theorem bXw:FbP 156:=fbT func156 (by kernel_rfl)
theorem bXx:FbP 157:=fbT func157 (by kernel_rfl)
theorem bXy:FbP 158:=fbT func158 (by kernel_rfl)
theorem bXz:FbP 159:=fbT func159 (by kernel_rfl)
theorem bY0:FbP 160:=fbT func160 (by kernel_rfl)
theorem bY1:FbP 161:=fbT func161 (by kernel_rfl)
theorem bY2:FbP 162:=fbT func162 (by kernel_rfl)
theorem bY3:FbP 163:=fbT func163 (by kernel_rfl)
theorem bY4:FbP 167:=fbT func167 (by kernel_rfl)
theorem bHk:FbP 173:=fbT func173 (by kernel_rfl)
theorem bU3:FbP 174:=fbT func174 (by kernel_rfl)
theorem bU4:FbP 175:=fbT func175 (by kernel_rfl)
theorem bU5:FbP 176:=fbT func176 (by kernel_rfl)
theorem bU6:FbP 177:=fbT func177 (by kernel_rfl)
theorem bNt:FbP 178:=fbT func178 (by kernel_rfl)
theorem bU7:FbP 179:=fbT func179 (by kernel_rfl)
theorem bU8:FbP 180:=fbT func180 (by kernel_rfl)
theorem bNu:FbP 181:=fbT func181 (by kernel_rfl)
theorem bU9:FbP 182:=fbT func182 (by kernel_rfl)
theorem bY5:FbP 192:=fbT func192 (by kernel_rfl)
theorem bY6:FbP 193:=fbT func193 (by kernel_rfl)
theorem bNv:FbP 194:=fbT func194 (by kernel_rfl)
theorem bNw:FbP 195:=fbT func195 (by kernel_rfl)
theorem bY7:FbP 209:=fbT func209 (by kernel_rfl)
theorem mix:Tryz.prog.follows .mixedOrders=true:=by kernel_rfl
@[go_sem] theorem mi3(H:aM)(ρ:Operand→AV)(x:Operand):cL prog H ρ (.makeInterface 3 x)=some (.ifc 3 (ρ x)):=by simp only [cL,underlying3]
@[go_sem] theorem mi4(H:aM)(ρ:Operand→AV)(x:Operand):cL prog H ρ (.makeInterface 4 x)=some (.ifc 4 (ρ x)):=by simp only [cL,underlying4]
@[go_sem] theorem ln9(s:ByteArray):dG prog .len [9] [.v (.string s)]=some (.v (.int .i64 s.size)):=aC5 underlying9
@[go_sem] theorem mi9(H:aM)(ρ:Operand→AV)(x:Operand):cL prog H ρ (.makeInterface 9 x)=some (.ifc 9 (ρ x)):=by simp only [cL,underlying9]
@[go_sem] theorem cEy(s:ByteArray):dG prog .len [10] [.v (.string s)]=some (.v (.int .i64 s.size)):=aC5 underlying10
@[go_sem] theorem cEz(s:ByteArray):dG prog .len [11] [.v (.string s)]=some (.v (.int .i64 s.size)):=aC5 underlying11
theorem cF0(xs:List AV)(n:Nat)(f:Bool):dG prog .len [24] [.sl xs n f]=some (.v (.int .i64 n)):=kM underlying24
theorem cF7(j o n:Nat):dG prog .len [24] [.own j o n]=some (.v (.int .i64 n)):=jA underlying24
theorem cFf(n c:Nat):dG prog .len [24] [.v (.slice none n c)]=some (.v (.int .i64 n)):=iZ underlying24
attribute [go_sem] cF0 cF7 cFf
@[go_sem] theorem cFo(H:aM)(ρ:Operand→AV)(x:Operand):cL prog H ρ (.makeInterface 24 x)=some (.ifc 24 (ρ x)):=by simp only [cL,underlying24]
theorem cF1(xs:List AV)(n:Nat)(f:Bool):dG prog .len [25] [.sl xs n f]=some (.v (.int .i64 n)):=kM underlying25
theorem cF8(j o n:Nat):dG prog .len [25] [.own j o n]=some (.v (.int .i64 n)):=jA underlying25
theorem cFg(n c:Nat):dG prog .len [25] [.v (.slice none n c)]=some (.v (.int .i64 n)):=iZ underlying25
attribute [go_sem] cF1 cF8 cFg
theorem cF2(xs:List AV)(n:Nat)(f:Bool):dG prog .len [27] [.sl xs n f]=some (.v (.int .i64 n)):=kM underlying27
theorem cF9(j o n:Nat):dG prog .len [27] [.own j o n]=some (.v (.int .i64 n)):=jA underlying27
theorem cFh(n c:Nat):dG prog .len [27] [.v (.slice none n c)]=some (.v (.int .i64 n)):=iZ underlying27
attribute [go_sem] cF2 cF9 cFh
theorem cF3(xs:List AV)(n:Nat)(f:Bool):dG prog .len [28] [.sl xs n f]=some (.v (.int .i64 n)):=kM underlying28
theorem cFa(j o n:Nat):dG prog .len [28] [.own j o n]=some (.v (.int .i64 n)):=jA underlying28
theorem cFi(n c:Nat):dG prog .len [28] [.v (.slice none n c)]=some (.v (.int .i64 n)):=iZ underlying28
attribute [go_sem] cF3 cFa cFi
theorem cF4(xs:List AV)(n:Nat)(f:Bool):dG prog .len [31] [.sl xs n f]=some (.v (.int .i64 n)):=kM underlying31
theorem cFb(j o n:Nat):dG prog .len [31] [.own j o n]=some (.v (.int .i64 n)):=jA underlying31
theorem cFj(n c:Nat):dG prog .len [31] [.v (.slice none n c)]=some (.v (.int .i64 n)):=iZ underlying31
attribute [go_sem] cF4 cFb cFj
@[go_sem] theorem cFp(H:aM)(ρ:Operand→AV)(x:Operand):cL prog H ρ (.makeInterface 36 x)=some (.ifc 36 (ρ x)):=by simp only [cL,underlying36]
theorem cF5(xs:List AV)(n:Nat)(f:Bool):dG prog .len [40] [.sl xs n f]=some (.v (.int .i64 n)):=kM underlying40
theorem cFc(j o n:Nat):dG prog .len [40] [.own j o n]=some (.v (.int .i64 n)):=jA underlying40
theorem cFk(n c:Nat):dG prog .len [40] [.v (.slice none n c)]=some (.v (.int .i64 n)):=iZ underlying40
attribute [go_sem] cF5 cFc cFk
@[go_sem] theorem cFq(H:aM)(ρ:Operand→AV)(x:Operand):cL prog H ρ (.makeInterface 40 x)=some (.ifc 40 (ρ x)):=by simp only [cL,underlying40]
theorem cF6(xs:List AV)(n:Nat)(f:Bool):dG prog .len [54] [.sl xs n f]=some (.v (.int .i64 n)):=kM underlying54
theorem cFd(j o n:Nat):dG prog .len [54] [.own j o n]=some (.v (.int .i64 n)):=jA underlying54
theorem cFl(n c:Nat):dG prog .len [54] [.v (.slice none n c)]=some (.v (.int .i64 n)):=iZ underlying54
attribute [go_sem] cF6 cFd cFl
theorem bYd(xs:List AV)(n:Nat)(f:Bool):dG prog .len [112] [.sl xs n f]=some (.v (.int .i64 n)):=kM underlying112
theorem bYj(j o n:Nat):dG prog .len [112] [.own j o n]=some (.v (.int .i64 n)):=jA underlying112
theorem bYp(n c:Nat):dG prog .len [112] [.v (.slice none n c)]=some (.v (.int .i64 n)):=iZ underlying112
attribute [go_sem] bYd bYj bYp
theorem bYe(xs:List AV)(n:Nat)(f:Bool):dG prog .len [172] [.sl xs n f]=some (.v (.int .i64 n)):=kM underlying172
theorem bYk(j o n:Nat):dG prog .len [172] [.own j o n]=some (.v (.int .i64 n)):=jA underlying172
theorem bYq(n c:Nat):dG prog .len [172] [.v (.slice none n c)]=some (.v (.int .i64 n)):=iZ underlying172
attribute [go_sem] bYe bYk bYq
theorem bYf(xs:List AV)(n:Nat)(f:Bool):dG prog .len [204] [.sl xs n f]=some (.v (.int .i64 n)):=kM underlying204
theorem bYl(j o n:Nat):dG prog .len [204] [.own j o n]=some (.v (.int .i64 n)):=jA underlying204
theorem bYr(n c:Nat):dG prog .len [204] [.v (.slice none n c)]=some (.v (.int .i64 n)):=iZ underlying204
attribute [go_sem] bYf bYl bYr
theorem bYg(xs:List AV)(n:Nat)(f:Bool):dG prog .len [225] [.sl xs n f]=some (.v (.int .i64 n)):=kM underlying225
theorem bYm(j o n:Nat):dG prog .len [225] [.own j o n]=some (.v (.int .i64 n)):=jA underlying225
theorem bYs(n c:Nat):dG prog .len [225] [.v (.slice none n c)]=some (.v (.int .i64 n)):=iZ underlying225
attribute [go_sem] bYg bYm bYs
theorem bYh(xs:List AV)(n:Nat)(f:Bool):dG prog .len [263] [.sl xs n f]=some (.v (.int .i64 n)):=kM underlying263
theorem bYn(j o n:Nat):dG prog .len [263] [.own j o n]=some (.v (.int .i64 n)):=jA underlying263
theorem bYt(n c:Nat):dG prog .len [263] [.v (.slice none n c)]=some (.v (.int .i64 n)):=iZ underlying263
attribute [go_sem] bYh bYn bYt
theorem bYi(xs:List AV)(n:Nat)(f:Bool):dG prog .len [265] [.sl xs n f]=some (.v (.int .i64 n)):=kM underlying265
theorem bYo(j o n:Nat):dG prog .len [265] [.own j o n]=some (.v (.int .i64 n)):=jA underlying265
theorem bYu(n c:Nat):dG prog .len [265] [.v (.slice none n c)]=some (.v (.int .i64 n)):=iZ underlying265
attribute [go_sem] bYi bYo bYu
attribute [go_sem] underlying0 sz0 underlying1 sz1 underlying2 sz2 underlying3 sz3 underlying4 sz4 underlying5 sz5 underlying6 sz6 underlying7 sz7 underlying8 sz8 underlying9 sz9 underlying10 cFv underlying11 cFw underlying12 cFx underlying13 cFy underlying14 cFz underlying15 cG0 underlying16 cG1 underlying17 cG2 underlying18 cG3 underlying19 cG4 underlying20 cG5 underlying21 cG6 underlying22 cG7 underlying23 bWh underlying24 cG8 underlying25 cG9 underlying26 cGa underlying27 cDm underlying28 bTi underlying29 cGb underlying30 cGc underlying31 cE5 underlying32 cGd underlying33 bM3 underlying34 cGe underlying35 cGf underlying36 cGg underlying37 cGh underlying38 cGi underlying39 cGj underlying40 cGk underlying41 cGl underlying42 cGm underlying43 fF underlying44 cGn underlying45 cGo underlying46 cGp underlying47 cGq underlying48 cGr underlying49 cGs underlying50 cGt underlying51 cGu underlying52 cGv underlying53 cGw underlying54 cGx underlying55 cGy underlying56 cGz underlying57 cH0 underlying58 cH1 underlying59 cH2 underlying60 cH3 underlying61 cH4 underlying62 cH5 underlying63 cH6 underlying64 cH7 underlying65 cH8 underlying66 cH9 underlying67 cHa underlying68 cHb underlying69 fS underlying70 cHc underlying71 cHd underlying72 cHe underlying73 cHf underlying74 cHg underlying75 cHh underlying76 cHi underlying77 cHj underlying78 cHk underlying79 cHl underlying80 cHm underlying81 cHn underlying82 cHo underlying83 cHp underlying84 cHq underlying85 cHr underlying86 cHs underlying87 cHt underlying88 cHu underlying89 cHv underlying90 cHw underlying91 cHx underlying92 cHy underlying93 cHz underlying94 cI0 underlying95 cI1 underlying96 cI2 underlying97 cI3 underlying98 cI4 underlying99 cI5 underlying100 bZ7 underlying101 bZ8 underlying102 aGi underlying103 bZ9 underlying104 bCe underlying105 bZa underlying106 bZb underlying107 bZc underlying108 bZd underlying109 bZe underlying110 bZf underlying111 bZg underlying112 aR9 underlying113 bZh underlying114 bZi underlying115 bZj underlying116 bZk underlying117 bZl underlying118 bZm underlying119 bZn underlying120 bCf underlying121 bZo underlying122 bZp underlying123 bZq underlying124 bZr underlying125 bZs underlying126 bZt underlying127 bZu underlying128 bZv underlying129 bZw underlying130 bZx underlying131 bZy underlying132 bZz underlying133 cA0 underlying134 cA1 underlying135 cA2 underlying136 cA3 underlying137 cA4 underlying138 cA5 underlying139 cA6 underlying140 cA7 underlying141 cA8 underlying142 cA9 underlying143 cAa underlying144 cAb underlying145 cAc underlying146 cAd underlying147 cAe underlying148 cAf underlying149 cAg underlying150 cAh underlying151 cAi underlying152 cAj underlying153 cAk underlying154 cAl underlying155 cAm underlying156 cAn underlying157 cAo underlying158 bIg underlying159 cAp underlying160 cAq underlying161 cAr underlying162 cAs underlying163 cAt underlying164 cAu underlying165 cAv underlying166 cAw underlying167 cAx underlying168 cAy underlying169 cAz underlying170 cB0 underlying171 cB1 underlying172 cB2 underlying173 cB3 underlying174 cB4 underlying175 cB5 underlying176 cB6 underlying177 cB7 underlying178 cB8 underlying179 cB9 underlying180 cBa underlying181 cBb underlying182 cBc underlying183 cBd underlying184 cBe underlying185 cBf underlying186 cBg underlying187 cBh underlying188 cBi underlying189 cBj underlying190 cBk underlying191 cBl underlying192 cBm underlying193 cBn underlying194 cBo underlying195 cBp underlying196 cBq underlying197 cBr underlying198 cBs underlying199 cBt underlying200 cBu underlying201 cBv underlying202 cBw underlying203 cBx underlying204 cBy underlying205 cBz underlying206 cC0 underlying207 cC1 underlying208 cC2 underlying209 cC3 underlying210 cC4 underlying211 cC5 underlying212 cC6 underlying213 cC7 underlying214 cC8 underlying215 cC9 underlying216 cCa underlying217 cCb underlying218 cCc underlying219 cCd underlying220 cCe underlying221 cCf underlying222 cCg underlying223 cCh underlying224 cCi underlying225 cCj underlying226 cCk underlying227 cCl underlying228 cCm underlying229 cCn underlying230 cCo underlying231 aWs underlying232 cCp underlying233 cCq underlying234 cCr underlying235 cCs underlying236 cCt underlying237 cCu underlying238 cCv underlying239 cCw underlying240 cCx underlying241 cCy underlying242 cCz underlying243 cD0 underlying244 cD1 underlying245 cD2 underlying246 cD3 underlying247 cD4 underlying248 cD5 underlying249 cD6 underlying250 cD7 underlying251 cD8 underlying252 cD9 underlying253 cDa underlying254 cDb underlying255 cDc underlying256 cDd underlying257 cDe underlying259 cDf underlying260 cDg underlying261 cDh underlying263 cDi underlying265 cDj underlying267 cDk underlying269 cDl underlying270 cDn underlying271 cDo underlying272 cDp underlying273 cDq underlying274 cDr underlying275 cDs underlying276 cDt underlying277 cDu underlying278 cDv underlying279 cDw underlying280 cDx underlying281 cDy underlying282 cDz underlying283 cE0 underlying284 cE1 underlying285 cE2 underlying286 cE3 underlying287 cE4
end Go.Proofs.YtkdohhmacfoolaaGreat
